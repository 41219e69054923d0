/-
  Texts set together by wip/tools/merge.py: Push, PD6, PD8, PD7, PD9, C1, C2. No condition beyond those told with each.
-/
import Derived.Test.YtigmgfinjapchaaDoorGc
import Derived.Deep.RegionLaw
import Derived.StillTailTactics
/-
  append of one element, told with where the new row lies. No condition.
-/
set_option linter.unusedVariables false
namespace Go.Proofs.YtigmgfinjapchaaDoor
open Go.RowKit

theorem wpList_push2 {P : Program} {wr w1 : World} {ops : Array Oper} {rest : List Oper} {o : Oper} {act : Act} {Q : Exit → Act → World → Prop} (hgd : o.guard = none) (s x : Operand) (t : TypeId)
    (ho : o.op = .call { callee := .builtin .append, args := #[s, x], argTypes := #[t, t] })
    (e : TypeId) (z : Value) (size bytes : Nat) (ht : P.underlying t = some (.slice e)) (hinfo : (P.info? e).map (fun i => (i.zero, i.size, i.bytes)) = some (some z, size, bytes))
    (hzs : z.cells.size = size) (hsz : 0 < size)
    (lo : Nat) (a : Option Addr) (cap : Nat) (xs : List M) (hs : act.eval s = .slice a xs.length cap) (hrow : (M.sl a cap size e xs).Mine wr lo) (hlo : lo ≤ wr.heap.size) (hb : Below wr.heap.size wr w1)
    (cs : Array Value) (m : M) (hmc : m.cells = cs.toList) (hml : cs.size = size) (c : Nat) (hm : m.Mine w1 c) (hc : wr.heap.size ≤ c)
    (hx : act.eval x = .slice (some ⟨w1.heap.size, 0, none⟩) 1 1) (h63 : xs.length + 1 ≤ maxLen) (hbytes : (xs.length + 1) * bytes ≤ 140737488355328)
    (h : ∀ a' cap' w', (M.sl a' cap' size e (xs ++ [m])).Mine w' lo → Below lo w1 w' → w1.heap.size ≤ w'.heap.size → (∀ b, b < w1.heap.size → b ∉ addrBlocks a → w'.heap[b]? = w1.heap[b]?) →
      (∀ b ∈ addrBlocks a', b ∈ addrBlocks a ∨ w1.heap.size ≤ b) → wpList P ops Q rest (act.put o.dst (.slice a' (xs.length + 1) cap')) w') : wpList P ops Q (o :: rest) act (w1.alloc (.cells cs e)) := by
  have hsz1 := hb.size
  have hrw : (M.sl a cap size e xs).Mine (w1.alloc (.cells cs e)) lo := by
    refine M.Mine.keep hrow fun b h1 h2 => ?_
    rw [heapNew _ _ _ (by omega), hb.block b h2]
  have hmw : m.Mine (w1.alloc (.cells cs e)) lo := by
    refine M.Mine.mono (M.Mine.keep hm fun b h1 h2 => ?_) (by omega)
    rw [heapNew _ _ _ h2]
  have hlen : m.cells.length = size := by rw [hmc]; simpa using hml
  refine wpList_row _ hgd s x t ho e z size bytes ht hinfo hzs hsz lo a xs.length cap (M.cellsL xs) hs hrw.own.1.1 _ 1 1 m.cells hx (by omega) (by simp) ?_ ?_ h63 hbytes (by simp; omega) ?_
  · intro ad had j u hu
    obtain rfl := Option.some.inj had
    rw [addr_add, Nat.zero_add, World.cell?_alloc_new]
    rw [hmc] at hu
    simpa using hu
  · exact M.Own.one m hmw.own
  · intro a' cap' w' hr hg ha
    have hY : M.MineL (w1.alloc (.cells cs e)) lo [m] := ⟨⟨hmw.own, trivial⟩, by simpa [M.blocksL] using hmw.dup⟩
    have hp := M.Mine.push (ys := [m]) hrw (by simpa [M.cellsL] using hr) hg ha hY (by simpa using hlen) (fun b hb' => by
      have h1 := hm.lt b (by simpa [M.blocksL] using hb')
      have h2 : ∀ b' ∈ (M.sl a cap size e xs).blocks, b' < wr.heap.size := fun b' hb' => (hrow.lt b' hb').2
      exact ⟨fun hn => by have := h2 b (by simp [M.blocks, hn]); omega, fun hn => by have := h2 b (by simp [M.blocks, hn]); omega⟩)
    have hkeep : ∀ b, b < w1.heap.size → b ∉ addrBlocks a → w'.heap[b]? = w1.heap[b]? := fun b hb1 hn => by
      rw [hg.block b (by simp; omega) (fun he => hn (addrBlocks_own.1 he.symm)), heapNew _ _ _ hb1]
    have hgs := hg.size
    simp only [World.size_alloc] at hgs
    refine h a' cap' w' hp ⟨hg.os, hg.tape, hg.output, by omega, fun k hk => hkeep k (by omega) fun hn => ?_⟩ (by omega) hkeep (fun b hb => (ha b hb).imp id fun h => by simp at h; omega)
    have := (Mine.addr_lo hrow k hn).1
    omega
theorem At_keep {m : M} {lo hi : Nat} {w w' : World} (h : m.At lo hi w) (hs : w.heap.size ≤ w'.heap.size) (hk : ∀ b, lo ≤ b → b < hi → w'.heap[b]? = w.heap[b]?) : m.At lo hi w' :=
  ⟨⟨M.Own.frame m h.mine.own fun b hb => hk b (h.mine.lt b hb).1 (h.lt b hb), h.mine.dup⟩, h.lt, Nat.le_trans h.hi hs⟩
end Go.Proofs.YtigmgfinjapchaaDoor

/-
  Walks: one datum read, the program's side. Conditions: the library's table of powers of ten reads as laid, strconv.ErrSyntax holds an error.
-/
set_option linter.unusedVariables false
set_option linter.unusedSimpArgs false
set_option maxRecDepth 100000
namespace Go.Proofs.YtigmgfinjapchaaDoor
open Go.RowKit

theorem wpList_push3 {P : Program} {wr w1 : World} {ops : Array Oper} {rest : List Oper} {o : Oper} {act : Act} {Q : Exit → Act → World → Prop} (hgd : o.guard = none) (s x : Operand) (t : TypeId)
    (ho : o.op = .call { callee := .builtin .append, args := #[s, x], argTypes := #[t, t] })
    (e : TypeId) (z : Value) (size bytes : Nat) (ht : P.underlying t = some (.slice e)) (hinfo : (P.info? e).map (fun i => (i.zero, i.size, i.bytes)) = some (some z, size, bytes))
    (hzs : z.cells.size = size) (hsz : 0 < size)
    (lo : Nat) (a : Option Addr) (cap : Nat) (xs : List M) (hs : act.eval s = .slice a xs.length cap) (hrow : (M.sl a cap size e xs).Mine wr lo) (hlo : lo ≤ wr.heap.size) (hsz1 : wr.heap.size ≤ w1.heap.size) (hk : ∀ b, lo ≤ b → b < wr.heap.size → w1.heap[b]? = wr.heap[b]?)
    (cs : Array Value) (m : M) (hmc : m.cells = cs.toList) (hml : cs.size = size) (c : Nat) (hm : m.Mine w1 c) (hc : wr.heap.size ≤ c)
    (hx : act.eval x = .slice (some ⟨w1.heap.size, 0, none⟩) 1 1) (h63 : xs.length + 1 ≤ maxLen) (hbytes : (xs.length + 1) * bytes ≤ 140737488355328)
    (h : ∀ a' cap' w', (M.sl a' cap' size e (xs ++ [m])).Mine w' lo → Below lo w1 w' → w1.heap.size ≤ w'.heap.size → (∀ b, b < w1.heap.size → b ∉ addrBlocks a → w'.heap[b]? = w1.heap[b]?) →
      wpList P ops Q rest (act.put o.dst (.slice a' (xs.length + 1) cap')) w') : wpList P ops Q (o :: rest) act (w1.alloc (.cells cs e)) := by
  have hrw : (M.sl a cap size e xs).Mine (w1.alloc (.cells cs e)) lo := by
    refine M.Mine.keep hrow fun b h1 h2 => ?_
    rw [heapNew _ _ _ (by omega), hk b h1 h2]
  have hmw : m.Mine (w1.alloc (.cells cs e)) lo := by
    refine M.Mine.mono (M.Mine.keep hm fun b h1 h2 => ?_) (by omega)
    rw [heapNew _ _ _ h2]
  have hlen : m.cells.length = size := by rw [hmc]; simpa using hml
  refine wpList_row _ hgd s x t ho e z size bytes ht hinfo hzs hsz lo a xs.length cap (M.cellsL xs) hs hrw.own.1.1 _ 1 1 m.cells hx (by omega) (by simp) ?_ ?_ h63 hbytes (by simp; omega) ?_
  · intro ad had j u hu
    obtain rfl := Option.some.inj had
    rw [addr_add, Nat.zero_add, World.cell?_alloc_new]
    rw [hmc] at hu
    simpa using hu
  · exact M.Own.one m hmw.own
  · intro a' cap' w' hr hg ha
    have hY : M.MineL (w1.alloc (.cells cs e)) lo [m] := ⟨⟨hmw.own, trivial⟩, by simpa [M.blocksL] using hmw.dup⟩
    have hp := M.Mine.push (ys := [m]) hrw (by simpa [M.cellsL] using hr) hg ha hY (by simpa using hlen) (fun b hb' => by
      have h1 := hm.lt b (by simpa [M.blocksL] using hb')
      have h2 : ∀ b' ∈ (M.sl a cap size e xs).blocks, b' < wr.heap.size := fun b' hb' => (hrow.lt b' hb').2
      exact ⟨fun hn => by have := h2 b (by simp [M.blocks, hn]); omega, fun hn => by have := h2 b (by simp [M.blocks, hn]); omega⟩)
    have hkeep : ∀ b, b < w1.heap.size → b ∉ addrBlocks a → w'.heap[b]? = w1.heap[b]? := fun b hb1 hn => by
      rw [hg.block b (by simp; omega) (fun he => hn (addrBlocks_own.1 he.symm)), heapNew _ _ _ hb1]
    have hgs := hg.size
    refine h a' cap' w' hp ?_ ?_ hkeep
    · have := grownBy_below (lo := lo) hg (B := lo) (by simp; omega) fun b hb => (Mine.addr_lo hrow b hb).1
      exact ⟨this.os, this.tape, this.output, by simp at hgs; omega, fun k hk => by rw [this.block k hk, heapNew _ _ _ (by omega)]⟩
    · simp at hgs; omega
/-- is there a datum, of no more nodes than are left? -/
def okC (res : Option (Dat × List UInt8)) (c : Nat) : Bool := match res with
  | none => false
  | some x => decide (c + x.1.count ≤ 600)
def listR : Option (List Dat × List UInt8) → Option (Dat × List UInt8)
  | none => none
  | some x => some (.mk 0 0 ⟨#[]⟩ x.1, x.2)
def quoteR : Option (Dat × List UInt8) → Option (Dat × List UInt8)
  | none => none
  | some x => some (.mk 0 0 ⟨#[]⟩ [quoteD, x.1], x.2)
theorem rd_list {l r : List UInt8} (h : skipL l = 40 :: r) : rd l = listR (rdL r) := by
  rw [rd_cons h, if_neg (by decide), if_neg (by decide), if_neg (by decide), if_pos rfl]
  cases rdL r with
  | none => rfl
  | some x => rfl
theorem rd_quote {l r : List UInt8} (h : skipL l = 39 :: r) : rd l = quoteR (rd r) := by
  rw [rd_cons h, if_neg (by decide), if_pos rfl]
  cases rd r with
  | none => rfl
  | some x => rfl
theorem rd_close {l r : List UInt8} (h : skipL l = 41 :: r) : rd l = none := by rw [rd_cons h, if_pos rfl]
theorem rd_str {l r : List UInt8} (h : skipL l = 34 :: r) : rd l = strR r := by rw [rd_cons h, if_neg (by decide), if_neg (by decide), if_pos rfl]
theorem rd_run {l r : List UInt8} {b : UInt8} (h : skipL l = b :: r) (h1 : b ≠ 41) (h2 : b ≠ 39) (h3 : b ≠ 34) (h4 : b ≠ 40) : rd l = atomR (b :: r) := by
  rw [rd_cons h, if_neg h1, if_neg h2, if_neg h3, if_neg h4]
theorem okC_many {res : Option (Dat × List UInt8)} {c : Nat} (h : 600 < c + 1) : okC res c = false := by
  cases res with
  | none => rfl
  | some x => have := x.1.count_pos; simp [okC]; omega
theorem okC_quote (res : Option (Dat × List UInt8)) (c : Nat) : okC (quoteR res) c = okC res (c + 2) := by
  cases res with
  | none => rfl
  | some x => simp only [quoteR, okC, Dat.count, Dat.countL, quoteD]; congr 1; simp; omega
theorem okC_true {d : Dat} {r : List UInt8} {c : Nat} (h : okC (some (d, r)) c = true) : c + d.count ≤ 600 := by simpa [okC] using h
theorem okC_listF {L0 : Option (List Dat × List UInt8)} {acc : List Dat} {l r : List UInt8} {b : UInt8} {c cc : Nat} (hL : L0 = preL acc (rdL l)) (hcc : cc = c + 1 + Dat.countL acc) (hs : skipL l = b :: r) (hb : b ≠ 41) (hf : okC (rd l) cc = false) : okC (listR L0) c = false := by
  subst hL
  cases hr : rd l with
  | none => rw [rdL_bad hs hb hr]; rfl
  | some x =>
    obtain ⟨d, r'⟩ := x
    rw [hr] at hf
    rw [rdL_step hs hb hr]
    cases rdL r' with
    | none => rfl
    | some y =>
      obtain ⟨es, r2⟩ := y
      simp only [okC, decide_eq_false_iff_not, preL, listR, Dat.count, Dat.countL_append, Dat.countL] at hf ⊢
      omega
theorem atomD_parts (T : ByteArray) : ∃ (k n : Int) (t : ByteArray) (ok : Bool), atomV (atomD T) = .tuple #[.agg #[.int .i64 k, .int .i64 n, .string t, .slice none 0 0], .bool ok] ∧ (ok = true → atomD T = some (.mk k n t [])) ∧ (ok = false → atomD T = none) := by
  cases h : atomD T with
  | none => exact ⟨0, 0, ⟨#[]⟩, false, rfl, (fun h => by cases h), fun _ => rfl⟩
  | some d =>
    have hc := (atomD_leaf h).1
    obtain ⟨k, n, t, ds⟩ := d
    cases ds with
    | nil => exact ⟨k, n, t, true, rfl, fun _ => rfl, fun h => by cases h⟩
    | cons x r => have := x.count_pos; simp only [Dat.count, Dat.countL] at hc; omega
/-- what reading one datum leaves, the program's side -/
def RdI (pb : Nat) (s : ByteArray) (a c : Nat) (w0 w : World) (res : Option (Dat × List UInt8)) (e : Ending) (w' : World) : Prop :=
  ∃ (k n : Int) (t : ByteArray) (ds : List Dat) (sa : Option Addr) (cap : Nat) (ms : List M) (p c' : Nat), e = .returned (.tuple #[.agg #[.int .i64 k, .int .i64 n, .string t, .slice sa ms.length cap], .bool (okC res c)]) ∧
    RdAt pb s p (.int .i64 c') w' ∧ OnlyIn pb (pb + 1) w w' ∧ Dat.IsL 43 ds ms ∧ (M.sl sa cap 4 43 ms).Mine w' w0.heap.size ∧ (okC res c = true → res = some (.mk k n t ds, s.data.toList.drop p) ∧ a ≤ p ∧ p ≤ s.size ∧ c' = c + (Dat.mk k n t ds).count)
theorem RdAt.next2 {pb : Nat} {s : ByteArray} {p : Nat} {x : Value} {w : World} (h : RdAt pb s p x w) {c : Nat} {y : Int} (hy : y = (c : Int)) : RdAt pb s p (.int .i64 c) (w.setCell ⟨pb, 2, none⟩ (.int .i64 y)) := by
  subst hy; exact h.set2 _
def DtI (B N : Nat) : Prop := ∀ (pb : Nat) (s : ByteArray) (a c : Nat) (w : World), RdAt pb s a (.int .i64 c) w → s.size ≤ 100000 → a ≤ s.size → s.size - a ≤ N → c ≤ 100000 → B ≤ pb → Tab B w → Sent B w →
    Calls Tryd.prog 33 #[.pointer (some ⟨pb, 0, none⟩)] w (RdI pb s a c w w (rd (s.data.toList.drop a)))
set_option maxHeartbeats 4000000 in
theorem iDatum_calls (B : Nat) : ∀ N, DtI B N := by
  intro N
  induction N using Nat.strongRecOn with
  | _ N ih =>
    intro pb s a c w h hs ha hN hc hBp hT hE
    have hpw := h.lt
    have hzb := Zero.new w
    have h1 : RdAt pb s a (.int .i64 c) (w.alloc (.cells #[.int .i64 0, .int .i64 0, .string ⟨#[]⟩, .slice none 0 0] 43)) := h.below (B := w.heap.size) (by (repeat (first | with_reducible assumption | with_reducible exact Below.refl _ _ | with_reducible refine Below.drew ?_ | with_reducible refine belowDrewN ?_ _ | ((with_reducible refine Below.setCell ?_ ?_ _); rotate_left; focus (first | omega | (simp; done) | (simp; omega))) | ((with_reducible refine Below.alloc ?_ ?_ _); rotate_left; focus (first | omega | (simp; done) | (simp; omega)))))) hpw
    have H := Lib.hid h; clear h; have HZB := Lib.hid hzb; clear hzb; have H1 := Lib.hid h1; clear h1; have HT := Lib.hid hT; clear hT; have HE := Lib.hid hE; clear hE; have IH := Lib.hid ih; clear ih
    go_enter Tryd.func33, Tryd.ntmps33
    go_wp2_with fail
    refine (iSkip_calls pb s a _ _ H1.out (by omega) ha).mono ?_
    rintro e w1 ⟨p, rfl, hsk, hap, hps, hr1, ho1⟩
    have hz1 := ho1.size
    simp only [World.size_alloc] at hz1
    have hzz1 := HZB.out.only ho1 (.inr (by omega))
    have hoo : OnlyIn pb (pb + 1) w w1 := ((OnlyIn.refl _ _ _).new _).trans ho1
    obtain ⟨c0, c1, c2, f1, f2⟩ := id hr1
    clear ho1
    by_cases hlt : p < s.size
    · have hd := drop_at hlt
      by_cases h600 : 600 < c + 1
      · have hok := okC_many (res := rd (s.data.toList.drop a)) h600
        have h600i : 600 < (c : Int) + 1 := by omega
        obtain ⟨r0, r1, r2, r3, g0, g1, g2, g3⟩ := hzz1
        have hr2 := (hr1.next2 (y := (c : Int) + 1) (c := c + 1) (by omega))
        have ho2 := hoo.put 2 (.int .i64 ((c : Int) + 1))
        have HSK := Lib.hid hsk; clear hsk; have HR1 := Lib.hid hr1; clear hr1; have HOO := Lib.hid hoo; clear hoo; have HD := Lib.hid hd; clear hd; have HOK := Lib.hid hok; clear hok; have HR2 := Lib.hid hr2; clear hr2; have HO2 := Lib.hid ho2; clear ho2
        go_wp2_with fail
        go_quiet (fail)
        go_wp2_with fail
        refine bodyPost_ret (v := .tuple #[.agg #[.int .i64 0, .int .i64 0, .string ⟨#[]⟩, .slice none 0 0], .bool false]) (by simp (disch := (first | omega | (simp; done) | (simp; omega))) [results, Tryd.results33, go_sem, r0, r1, r2, r3]) rfl ?_
        refine ⟨0, 0, ⟨#[]⟩, [], none, 0, [], p, c + 1, by rw [HOK.out]; rfl, ?_, ?_, rfl, M.Mine.nil _ _ _ _ (by decide), fun hh => by rw [HOK.out] at hh; cases hh⟩
        · exact (HR2.out.drewN _).below (B := w.heap.size) (by (repeat (first | with_reducible assumption | with_reducible exact Below.refl _ _ | with_reducible refine Below.drew ?_ | with_reducible refine belowDrewN ?_ _ | ((with_reducible refine Below.setCell ?_ ?_ _); rotate_left; focus (first | omega | (simp; done) | (simp; omega))) | ((with_reducible refine Below.alloc ?_ ?_ _); rotate_left; focus (first | omega | (simp; done) | (simp; omega)))))) hpw
        · exact (HO2.out.drewN _).thenBelow (by (repeat (first | with_reducible assumption | with_reducible exact Below.refl _ _ | with_reducible refine Below.drew ?_ | with_reducible refine belowDrewN ?_ _ | ((with_reducible refine Below.setCell ?_ ?_ _); rotate_left; focus (first | omega | (simp; done) | (simp; omega))) | ((with_reducible refine Below.alloc ?_ ?_ _); rotate_left; focus (first | omega | (simp; done) | (simp; omega))))))
      · have h600i : ¬ 600 < (c : Int) + 1 := by omega
        have hs2 : skipL (s.data.toList.drop a) = (s[p]'hlt) :: s.data.toList.drop (p + 1) := hsk.symm.trans hd
        have hr2 := (hr1.next2 (y := (c : Int) + 1) (c := c + 1) (by omega))
        have ho2 := hoo.put 2 (.int .i64 ((c : Int) + 1))
        have hzz2 : Zero w.heap.size (w1.setCell ⟨pb, 2, none⟩ (.int .i64 ((c : Int) + 1))) := hzz1.of (heapSet _ _ _ _ (by simp; omega))
        have e40 : (((s[p]'hlt).toNat : Int) == 40) = (s[p]'hlt == 40) := byteEq _ 40
        have e41 : (((s[p]'hlt).toNat : Int) == 41) = (s[p]'hlt == 41) := byteEq _ 41
        have e39 : (((s[p]'hlt).toNat : Int) == 39) = (s[p]'hlt == 39) := byteEq _ 39
        have e34 : (((s[p]'hlt).toNat : Int) == 34) = (s[p]'hlt == 34) := byteEq _ 34
        generalize hB : s[p]'hlt = b at *
        by_cases h40 : b = 40
        · rw [h40] at hs2
          have y40 : (b == 40) = true := by simp [h40]
          rw [y40] at e40
          have hrd := rd_list hs2
          clear y40 e41 e39 e34
          clear hzz1
          obtain ⟨r0, r1, r2, r3, g0, g1, g2, g3⟩ := id hzz2
          have HSK := Lib.hid hsk; clear hsk; have HR1 := Lib.hid hr1; clear hr1; have HOO := Lib.hid hoo; clear hoo; have HD := Lib.hid hd; clear hd; have HRD := Lib.hid hrd; clear hrd; have HR2 := Lib.hid hr2; clear hr2; have HO2 := Lib.hid ho2; clear ho2; have HS2 := Lib.hid hs2; clear hs2; have H40 := Lib.hid h40; clear h40; have HZZ2 := Lib.hid hzz2; clear hzz2
          go_wp2_with fail
          go_quiet (fail)
          go_wp2_with fail
          go_quiet (fail)
          go_wp2_with fail
          have hdl : decide (s.size ≤ p) = false := by simp; omega
          simp only [hdl, Bool.false_or]
          clear hdl
          go_loopg [4] (s.size - (p + 1)) (fun k t wr => ∃ (j : Nat) (acc : List Dat) (a' : Option Addr) (cap' : Nat) (ms : List M) (cc : Nat), k = s.size - j ∧ t = .slice a' ms.length cap' ∧ Dat.IsL 43 acc ms ∧ (M.sl a' cap' 4 43 ms).Mine wr (w.heap.size + 1) ∧ rdL (s.data.toList.drop (p + 1)) = preL acc (rdL (s.data.toList.drop j)) ∧ p + 1 ≤ j ∧ j ≤ s.size ∧ cc = c + 1 + Dat.countL acc ∧ cc ≤ 600 ∧ RdAt pb s j (.int .i64 (cc : Int)) wr ∧ OnlyIn pb (pb + 1) w wr ∧ Zero w.heap.size wr)
          case atStart => exact ⟨p + 1, [], none, 0, [], c + 1, rfl, rfl, rfl, M.Mine.nil _ _ _ _ (by decide), (preL_nil _).symm, Nat.le_refl _, by omega, by simp [Dat.countL], by omega, (HR2.out.drewN _).move (by omega), (HO2.out.drewN _).put _ _, HZZ2.out.of (by simp (disch := (first | omega | (simp; omega))) only [heapSet, heapDrewN])⟩
          case round =>
            obtain ⟨j, acc, a', cap', ms, cc, rfl, rfl, hi, hm, hL, hpj, hjs, hcc, hc6, hrj, hoj, hzj⟩ := hrel
            clear c0 c1 c2 f1 f2 r0 r1 r2 r3 g0 g1 g2 g3
            have hbw : Below B w wr := hoj.below hBp (by omega)
            have hal := hi.length
            have hac := Dat.length_le acc
            have hzl := hzj.lt
            have HI := Lib.hid hi; clear hi; have HM := Lib.hid hm; clear hm; have HL := Lib.hid hL; clear hL; have HRJ := Lib.hid hrj; clear hrj; have HOJ := Lib.hid hoj; clear hoj; have HZJ := Lib.hid hzj; clear hzj; have HAL := Lib.hid hal; clear hal
            go_wp2_with fail
            refine (iSkip_calls pb s j _ _ HRJ.out (by omega) (by omega)).mono ?_
            rintro e w3 ⟨j1, rfl, hsk3, hj1, hj2, hr3, ho3⟩
            have hz3 := ho3.size
            obtain ⟨c0, c1, c2, f1, f2⟩ := id hr3
            have hzz3 := HZJ.out.only ho3 (.inr (by omega))
            have ho3' := HOJ.out.trans ho3
            obtain ⟨r0, r1, r2, r3, g0, g1, g2, g3⟩ := id hzz3
            by_cases hlj : j1 < s.size
            · have hdj := drop_at hlj
              have ej : (((s[j1]'hlj).toNat : Int) == 41) = (s[j1]'hlj == 41) := byteEq _ 41
              generalize hBj : s[j1]'hlj = bj at *
              have hs3 : skipL (s.data.toList.drop j) = bj :: s.data.toList.drop (j1 + 1) := hsk3.symm.trans hdj
              by_cases hq : bj = 41
              · have yq : (bj == 41) = true := by simp [hq]
                rw [yq] at ej
                have hend : rdL (s.data.toList.drop j) = some ([], s.data.toList.drop (j1 + 1)) := rdL_end (by rw [hs3, hq])
                have hres : rd (s.data.toList.drop a) = some (.mk 0 0 ⟨#[]⟩ acc, s.data.toList.drop (j1 + 1)) := by rw [HRD.out, HL.out, hend]; simp [preL, listR]
                have hok : okC (rd (s.data.toList.drop a)) c = true := by
                  rw [hres]
                  show decide (c + (Dat.mk 0 0 ⟨#[]⟩ acc).count ≤ 600) = true
                  rw [decide_eq_true_eq]
                  simp only [Dat.count]
                  omega
                have hm3 := HM.out.keep (w' := w3) (fun b h1 h2 => ho3.block b h2 (.inr (by omega)))
                clear yq hend
                have HR3 := Lib.hid hr3; clear hr3; have HO3 := Lib.hid ho3; clear ho3; have HO3' := Lib.hid ho3'; clear ho3'; have HZZ3 := Lib.hid hzz3; clear hzz3; have HDJ := Lib.hid hdj; clear hdj; have HQ := Lib.hid hq; clear hq; have HSK3 := Lib.hid hsk3; clear hsk3; have HS3 := Lib.hid hs3; clear hs3; have HRES := Lib.hid hres; clear hres; have HOK := Lib.hid hok; clear hok; have HM3 := Lib.hid hm3; clear hm3
                go_wp2_with fail
                go_quiet (fail)
                go_wp2_with fail
                go_quiet (fail)
                go_wp2_with fail
                refine bodyPost_ret (v := .tuple #[.agg #[.int .i64 0, .int .i64 0, .string ⟨#[]⟩, .slice a' ms.length cap'], .bool true]) (by simp (disch := (first | omega | (simp; done) | (simp; omega))) [results, Tryd.results33, go_sem, r0, r1, r2, r3]) rfl ?_
                refine ⟨0, 0, ⟨#[]⟩, acc, a', cap', ms, j1 + 1, cc, by rw [HOK.out], ?_, ?_, HI.out, ?_, fun _ => ⟨HRES.out, by omega, by omega, by rw [hcc]; simp only [Dat.count]; omega⟩⟩
                · exact ((HR3.out.drewN _).move (y := (j1 : Int) + 1) (by omega)).below (B := w.heap.size) (by (repeat (first | with_reducible assumption | with_reducible exact Below.refl _ _ | with_reducible refine Below.drew ?_ | with_reducible refine belowDrewN ?_ _ | ((with_reducible refine Below.setCell ?_ ?_ _); rotate_left; focus (first | omega | (simp; done) | (simp; omega))) | ((with_reducible refine Below.alloc ?_ ?_ _); rotate_left; focus (first | omega | (simp; done) | (simp; omega)))))) hpw
                · exact ((HO3'.out.drewN _).put 1 (.int .i64 ((j1 : Int) + 1))).thenBelow (by (repeat (first | with_reducible assumption | with_reducible exact Below.refl _ _ | with_reducible refine Below.drew ?_ | with_reducible refine belowDrewN ?_ _ | ((with_reducible refine Below.setCell ?_ ?_ _); rotate_left; focus (first | omega | (simp; done) | (simp; omega))) | ((with_reducible refine Below.alloc ?_ ?_ _); rotate_left; focus (first | omega | (simp; done) | (simp; omega))))))
                · exact M.Mine.mono ⟨M.Own.frame _ HM3.out.own fun b hb' => by have h1_ := HM3.out.lt b hb'; simp (disch := (first | omega | (simp; omega))) only [heapSet, heapDrewN], HM3.out.dup⟩ (by omega)
              · have nq : (bj == 41) = false := by simp [hq]
                rw [nq] at ej
                have hrs : rd (s.data.toList.drop j1) = rd (s.data.toList.drop j) := rd_skip (by rw [hsk3, skipL_idem])
                have hbw3 : ∀ n, Below B w (w3.drewN n) := fun n => (ho3'.drewN n).below hBp (by omega)
                clear nq
                have HR3 := Lib.hid hr3; clear hr3; have HO3 := Lib.hid ho3; clear ho3; have HO3' := Lib.hid ho3'; clear ho3'; have HZZ3 := Lib.hid hzz3; clear hzz3; have HDJ := Lib.hid hdj; clear hdj; have HQ := Lib.hid hq; clear hq; have HSK3 := Lib.hid hsk3; clear hsk3; have HS3 := Lib.hid hs3; clear hs3; have HRS := Lib.hid hrs; clear hrs; have HBW3 := Lib.hid hbw3; clear hbw3
                go_wp2_with fail
                go_quiet (fail)
                go_wp2_with fail
                go_quiet (fail)
                go_wp2_with fail
                refine (IH.out (s.size - j1) (by omega) pb s j1 cc _ (HR3.out.drewN _) (by omega) (by omega) (by omega) (by omega) hBp (HT.out.on (HBW3.out _)) (HE.out.on (HBW3.out _))).mono ?_
                rintro e w4 ⟨k2, n2, t2, ds2, sa2, cap2, ms2, p2, c2', rfl, hr4, ho4, hi4, hm4, hpost⟩
                rw [HRS.out]
                rw [HRS.out] at hpost
                have hz4 := ho4.size
                simp only [sizeDrewN] at hz4 hm4
                have hzz4 := (HZZ3.out.of (w' := w3.drewN _) rfl).only ho4 (.inr (by omega))
                have ho4' := (HO3'.out.drewN _).trans ho4
                clear c0 c1 c2 f1 f2 r0 r1 r2 r3 g0 g1 g2 g3
                obtain ⟨r0, r1, r2, r3, g0, g1, g2, g3⟩ := id hzz4
                have hpw4 : pb < w4.heap.size := by omega
                have hzw4 : w.heap.size < w4.heap.size := by omega
                cases hb : okC (rd (s.data.toList.drop j)) cc with
                | false =>
                  have hok : okC (rd (s.data.toList.drop a)) c = false := by rw [HRD.out]; exact okC_listF HL.out hcc HS3.out HQ.out hb
                  clear hpost
                  have HR4 := Lib.hid hr4; clear hr4; have HO4 := Lib.hid ho4; clear ho4; have HO4' := Lib.hid ho4'; clear ho4'; have HI4 := Lib.hid hi4; clear hi4; have HM4 := Lib.hid hm4; clear hm4; have HZZ4 := Lib.hid hzz4; clear hzz4; have HB := Lib.hid hb; clear hb; have HOK := Lib.hid hok; clear hok
                  go_wp2_with fail
                  refine bodyPost_ret (v := .tuple #[.agg #[.int .i64 0, .int .i64 0, .string ⟨#[]⟩, .slice none 0 0], .bool false]) (by simp (disch := (first | omega | (simp; done) | (simp; omega))) [results, Tryd.results33, go_sem, r0, r1, r2, r3]) rfl ?_
                  refine ⟨0, 0, ⟨#[]⟩, [], none, 0, [], p2, c2', by rw [HOK.out]; rfl, ?_, ?_, rfl, M.Mine.nil _ _ _ _ (by decide), fun hh => by rw [HOK.out] at hh; cases hh⟩
                  · exact HR4.out.below (B := w.heap.size) (by (repeat (first | with_reducible assumption | with_reducible exact Below.refl _ _ | with_reducible refine Below.drew ?_ | with_reducible refine belowDrewN ?_ _ | ((with_reducible refine Below.setCell ?_ ?_ _); rotate_left; focus (first | omega | (simp; done) | (simp; omega))) | ((with_reducible refine Below.alloc ?_ ?_ _); rotate_left; focus (first | omega | (simp; done) | (simp; omega)))))) hpw
                  · exact HO4'.out.thenBelow (by (repeat (first | with_reducible assumption | with_reducible exact Below.refl _ _ | with_reducible refine Below.drew ?_ | with_reducible refine belowDrewN ?_ _ | ((with_reducible refine Below.setCell ?_ ?_ _); rotate_left; focus (first | omega | (simp; done) | (simp; omega))) | ((with_reducible refine Below.alloc ?_ ?_ _); rotate_left; focus (first | omega | (simp; done) | (simp; omega))))))
                | true =>
                  obtain ⟨hres4, hp1, hp2, hc2⟩ := hpost hb
                  have hlt4 : j < p2 := by have := (rd_ok hres4).lt; rw [List.length_drop, List.length_drop] at this; omega
                  have h6 : cc + (Dat.mk k2 n2 t2 ds2).count ≤ 600 := okC_true (hres4 ▸ hb)
                  have hLn : rdL (s.data.toList.drop (p + 1)) = preL (acc ++ [(.mk k2 n2 t2 ds2)]) (rdL (s.data.toList.drop p2)) := by rw [HL.out, rdL_step HS3.out HQ.out hres4, preL_preL]
                  have hcn : c2' = c + 1 + Dat.countL (acc ++ [(.mk k2 n2 t2 ds2)]) := by rw [hc2, hcc, Dat.countL_append]; simp only [Dat.countL]; omega
                  have hrow := HM.out.keep (w' := w4) (fun b h1 h2 => by
                    have e1 := HO3.out.block b h2 (.inr (by omega))
                    have e2 := ho4.block b (by rw [sizeDrewN]; omega) (.inr (by omega))
                    exact e2.trans e1)
                  have hiN : Dat.IsL 43 (acc ++ [(.mk k2 n2 t2 ds2)]) (ms ++ [(M.ag [.c (.int .i64 k2), .c (.int .i64 n2), .c (.string t2), .sl sa2 cap2 4 43 ms2])]) := HI.out.snoc ⟨_, _, _, rfl, hi4⟩
                  have hmA := (Dat.mine (k := k2) (n := n2) (s := t2) hm4).below (w' := w4.alloc (.cells #[.int .i64 k2, .int .i64 n2, .string t2, .slice sa2 ms2.length cap2] 43)) (by (repeat (first | with_reducible assumption | with_reducible exact Below.refl _ _ | with_reducible refine Below.drew ?_ | with_reducible refine belowDrewN ?_ _ | ((with_reducible refine Below.setCell ?_ ?_ _); rotate_left; focus (first | omega | (simp; done) | (simp; omega))) | ((with_reducible refine Below.alloc ?_ ?_ _); rotate_left; focus (first | omega | (simp; done) | (simp; omega))))))
                  have hkk : ∀ b, w.heap.size + 1 ≤ b → b < wr.heap.size → (w4.alloc (.cells #[.int .i64 k2, .int .i64 n2, .string t2, .slice sa2 ms2.length cap2] 43)).heap[b]? = wr.heap[b]? := fun b h1 h2 => by
                    rw [heapNew _ _ _ (by omega)]
                    exact (ho4.block b (by rw [sizeDrewN]; omega) (.inr (by omega))).trans (HO3.out.block b h2 (.inr (by omega)))
                  have hcs : c2' ≤ 600 := by omega
                  have hml : ms.length ≤ 600 := by have := HAL.out; omega
                  clear hc2 hpost
                  have HR4 := Lib.hid hr4; clear hr4; have HO4 := Lib.hid ho4; clear ho4; have HO4' := Lib.hid ho4'; clear ho4'; have HI4 := Lib.hid hi4; clear hi4; have HM4 := Lib.hid hm4; clear hm4; have HZZ4 := Lib.hid hzz4; clear hzz4; have HB := Lib.hid hb; clear hb; have HRES4 := Lib.hid hres4; clear hres4; have HLN := Lib.hid hLn; clear hLn; have HCN := Lib.hid hcn; clear hcn; have HROW := Lib.hid hrow; clear hrow; have HIN := Lib.hid hiN; clear hiN; have HMA := Lib.hid hmA; clear hmA; have HKK := Lib.hid hkk; clear hkk; have H6 := Lib.hid h6; clear h6
                  go_wp2_with (at_builtin; refine wpList_push3 (wr := wr) (w1 := w4.alloc (.cells #[.int .i64 k2, .int .i64 n2, .string t2, .slice sa2 ms2.length cap2] 43)) rfl _ _ 31 rfl 43 _ 4 56 Tryd.underlying31 infoDat rfl (by decide) (w.heap.size + 1) a' cap' ms rfl HM.out (by omega) (by simp; omega) HKK.out _ (M.ag [.c (.int .i64 k2), .c (.int .i64 n2), .c (.string t2), .sl sa2 cap2 4 43 ms2]) rfl rfl w3.heap.size HMA.out (by omega) (by simp [go_sem]) (by unfold maxLen; omega) (by omega) ?_)
                  intro a5 cap5 w5 hm5 hb5 hz5 hk5
                  (try simp only [World.size_alloc] at hz5)
                  have hr5 := (HR4.out.below (B := w4.heap.size) (w' := w4.alloc (.cells #[.int .i64 k2, .int .i64 n2, .string t2, .slice sa2 ms2.length cap2] 43)) (by (repeat (first | with_reducible assumption | with_reducible exact Below.refl _ _ | with_reducible refine Below.drew ?_ | with_reducible refine belowDrewN ?_ _ | ((with_reducible refine Below.setCell ?_ ?_ _); rotate_left; focus (first | omega | (simp; done) | (simp; omega))) | ((with_reducible refine Below.alloc ?_ ?_ _); rotate_left; focus (first | omega | (simp; done) | (simp; omega)))))) hpw4).below hb5 (by omega)
                  have ho5 := HO4'.out.thenBelow (show Below w.heap.size w4 w5 by (repeat (first | with_reducible assumption | with_reducible exact Below.refl _ _ | with_reducible refine Below.drew ?_ | with_reducible refine belowDrewN ?_ _ | ((with_reducible refine Below.setCell ?_ ?_ _); rotate_left; focus (first | omega | (simp; done) | (simp; omega))) | ((with_reducible refine Below.alloc ?_ ?_ _); rotate_left; focus (first | omega | (simp; done) | (simp; omega))) | ((with_reducible refine Below.trans ?_ (Below.mono hb5 ?_)); rotate_left; focus (first | omega | (simp; done) | (simp; omega))))))
                  have hzz5 := (HZZ4.out.below (B := w4.heap.size) (w' := w4.alloc (.cells #[.int .i64 k2, .int .i64 n2, .string t2, .slice sa2 ms2.length cap2] 43)) (by (repeat (first | with_reducible assumption | with_reducible exact Below.refl _ _ | with_reducible refine Below.drew ?_ | with_reducible refine belowDrewN ?_ _ | ((with_reducible refine Below.setCell ?_ ?_ _); rotate_left; focus (first | omega | (simp; done) | (simp; omega))) | ((with_reducible refine Below.alloc ?_ ?_ _); rotate_left; focus (first | omega | (simp; done) | (simp; omega)))))) hzw4).below hb5 (by omega)
                  have hnl : (ms ++ [(M.ag [.c (.int .i64 k2), .c (.int .i64 n2), .c (.string t2), .sl sa2 cap2 4 43 ms2])]).length = ms.length + 1 := by simp
                  have HM5 := Lib.hid hm5; clear hm5; have HB5 := Lib.hid hb5; clear hb5; have HK5 := Lib.hid hk5; clear hk5; have HR5 := Lib.hid hr5; clear hr5; have HO5 := Lib.hid ho5; clear ho5; have HZZ5 := Lib.hid hzz5; clear hzz5; have HNL := Lib.hid hnl; clear hnl
                  go_wp2_with fail
                  go_roundg (s.size - p2)
                  case measure => omega
                  case rel => exact ⟨p2, acc ++ [(.mk k2 n2 t2 ds2)], a5, cap5, _, c2', rfl, by rw [HNL.out], HIN.out, HM5.out, HLN.out, by omega, hp2, HCN.out, hcs, HR5.out, HO5.out, HZZ5.out⟩
            · have hnil : skipL (s.data.toList.drop j) = [] := by rw [← hsk3]; exact drop_out (by omega)
              have hok : okC (rd (s.data.toList.drop a)) c = false := by rw [HRD.out, HL.out, rdL_nil hnil]; rfl
              clear hnil
              have HR3 := Lib.hid hr3; clear hr3; have HO3 := Lib.hid ho3; clear ho3; have HO3' := Lib.hid ho3'; clear ho3'; have HZZ3 := Lib.hid hzz3; clear hzz3; have HSK3 := Lib.hid hsk3; clear hsk3; have HOK := Lib.hid hok; clear hok
              go_wp2_with fail
              go_quiet (fail)
              go_wp2_with fail
              refine bodyPost_ret (v := .tuple #[.agg #[.int .i64 0, .int .i64 0, .string ⟨#[]⟩, .slice none 0 0], .bool false]) (by simp (disch := (first | omega | (simp; done) | (simp; omega))) [results, Tryd.results33, go_sem, r0, r1, r2, r3]) rfl ?_
              refine ⟨0, 0, ⟨#[]⟩, [], none, 0, [], j1, cc, by rw [HOK.out]; rfl, ?_, ?_, rfl, M.Mine.nil _ _ _ _ (by decide), fun hh => by rw [HOK.out] at hh; cases hh⟩
              · exact (HR3.out.drewN _).below (B := w.heap.size) (by (repeat (first | with_reducible assumption | with_reducible exact Below.refl _ _ | with_reducible refine Below.drew ?_ | with_reducible refine belowDrewN ?_ _ | ((with_reducible refine Below.setCell ?_ ?_ _); rotate_left; focus (first | omega | (simp; done) | (simp; omega))) | ((with_reducible refine Below.alloc ?_ ?_ _); rotate_left; focus (first | omega | (simp; done) | (simp; omega)))))) hpw
              · exact (HO3'.out.drewN _).thenBelow (by (repeat (first | with_reducible assumption | with_reducible exact Below.refl _ _ | with_reducible refine Below.drew ?_ | with_reducible refine belowDrewN ?_ _ | ((with_reducible refine Below.setCell ?_ ?_ _); rotate_left; focus (first | omega | (simp; done) | (simp; omega))) | ((with_reducible refine Below.alloc ?_ ?_ _); rotate_left; focus (first | omega | (simp; done) | (simp; omega))))))
        have n40 : (b == 40) = false := by simp [h40]
        rw [n40] at e40
        by_cases h41 : b = 41
        · rw [h41] at hs2
          have y41 : (b == 41) = true := by simp [h41]
          rw [y41] at e41
          have hok : okC (rd (s.data.toList.drop a)) c = false := by rw [rd_close hs2]; rfl
          clear y41 n40 e39 e34
          obtain ⟨r0, r1, r2, r3, g0, g1, g2, g3⟩ := hzz1
          clear hzz2
          have HSK := Lib.hid hsk; clear hsk; have HR1 := Lib.hid hr1; clear hr1; have HOO := Lib.hid hoo; clear hoo; have HD := Lib.hid hd; clear hd; have HOK := Lib.hid hok; clear hok; have HR2 := Lib.hid hr2; clear hr2; have HO2 := Lib.hid ho2; clear ho2; have HS2 := Lib.hid hs2; clear hs2; have H40 := Lib.hid h40; clear h40; have H41 := Lib.hid h41; clear h41
          go_wp2_with fail
          go_quiet (fail)
          go_wp2_with fail
          go_quiet (fail)
          go_wp2_with fail
          refine bodyPost_ret (v := .tuple #[.agg #[.int .i64 0, .int .i64 0, .string ⟨#[]⟩, .slice none 0 0], .bool false]) (by simp (disch := (first | omega | (simp; done) | (simp; omega))) [results, Tryd.results33, go_sem, r0, r1, r2, r3]) rfl ?_
          refine ⟨0, 0, ⟨#[]⟩, [], none, 0, [], p, c + 1, by rw [HOK.out]; rfl, ?_, ?_, rfl, M.Mine.nil _ _ _ _ (by decide), fun hh => by rw [HOK.out] at hh; cases hh⟩
          · exact (HR2.out.drewN _).below (B := w.heap.size) (by (repeat (first | with_reducible assumption | with_reducible exact Below.refl _ _ | with_reducible refine Below.drew ?_ | with_reducible refine belowDrewN ?_ _ | ((with_reducible refine Below.setCell ?_ ?_ _); rotate_left; focus (first | omega | (simp; done) | (simp; omega))) | ((with_reducible refine Below.alloc ?_ ?_ _); rotate_left; focus (first | omega | (simp; done) | (simp; omega)))))) hpw
          · exact (HO2.out.drewN _).thenBelow (by (repeat (first | with_reducible assumption | with_reducible exact Below.refl _ _ | with_reducible refine Below.drew ?_ | with_reducible refine belowDrewN ?_ _ | ((with_reducible refine Below.setCell ?_ ?_ _); rotate_left; focus (first | omega | (simp; done) | (simp; omega))) | ((with_reducible refine Below.alloc ?_ ?_ _); rotate_left; focus (first | omega | (simp; done) | (simp; omega))))))
        have n41 : (b == 41) = false := by simp [h41]
        rw [n41] at e41
        by_cases h39 : b = 39
        · rw [h39] at hs2
          have y39 : (b == 39) = true := by simp [h39]
          rw [y39] at e39
          have hrd := rd_quote hs2
          clear y39 n40 n41 e34
          have hok : okC (rd (s.data.toList.drop a)) c = okC (rd (s.data.toList.drop (p + 1))) (c + 2) := by rw [hrd, okC_quote]
          have hrN : ∀ n, RdAt pb s (p + 1) (.int .i64 ((c + 2 : Nat) : Int)) ((((w1.setCell ⟨pb, 2, none⟩ (.int .i64 ((c : Int) + 1))).drewN n).setCell ⟨pb, 1, none⟩ (.int .i64 ((p : Int) + 1))).setCell ⟨pb, 2, none⟩ (.int .i64 ((c : Int) + 1 + 1))) := fun n => ((hr2.drewN n).move (by omega)).next2 (by omega)
          have hoN : ∀ n, OnlyIn pb (pb + 1) w ((((w1.setCell ⟨pb, 2, none⟩ (.int .i64 ((c : Int) + 1))).drewN n).setCell ⟨pb, 1, none⟩ (.int .i64 ((p : Int) + 1))).setCell ⟨pb, 2, none⟩ (.int .i64 ((c : Int) + 1 + 1))) := fun n => (((ho2.drewN n).put 1 _).put 2 _)
          have hbN : ∀ n, Below B w ((((w1.setCell ⟨pb, 2, none⟩ (.int .i64 ((c : Int) + 1))).drewN n).setCell ⟨pb, 1, none⟩ (.int .i64 ((p : Int) + 1))).setCell ⟨pb, 2, none⟩ (.int .i64 ((c : Int) + 1 + 1))) := fun n => (hoN n).below hBp (by omega)
          have hzN : ∀ n, Zero w.heap.size ((((w1.setCell ⟨pb, 2, none⟩ (.int .i64 ((c : Int) + 1))).drewN n).setCell ⟨pb, 1, none⟩ (.int .i64 ((p : Int) + 1))).setCell ⟨pb, 2, none⟩ (.int .i64 ((c : Int) + 1 + 1))) := fun n => hzz2.of (by simp (disch := (first | omega | (simp; omega))) only [heapSet, heapDrewN])
          have hsN : ∀ n, ((((w1.setCell ⟨pb, 2, none⟩ (.int .i64 ((c : Int) + 1))).drewN n).setCell ⟨pb, 1, none⟩ (.int .i64 ((p : Int) + 1))).setCell ⟨pb, 2, none⟩ (.int .i64 ((c : Int) + 1 + 1))).heap.size = w1.heap.size := fun n => by simp [sizeDrewN]
          clear hzz1 hzz2
          have HSK := Lib.hid hsk; clear hsk; have HR1 := Lib.hid hr1; clear hr1; have HOO := Lib.hid hoo; clear hoo; have HD := Lib.hid hd; clear hd; have HRD := Lib.hid hrd; clear hrd; have HOK := Lib.hid hok; clear hok; have HR2 := Lib.hid hr2; clear hr2; have HO2 := Lib.hid ho2; clear ho2; have HS2 := Lib.hid hs2; clear hs2; have H40 := Lib.hid h40; clear h40; have H41 := Lib.hid h41; clear h41; have H39 := Lib.hid h39; clear h39; have HRN := Lib.hid hrN; clear hrN; have HON := Lib.hid hoN; clear hoN; have HBN := Lib.hid hbN; clear hbN; have HZN := Lib.hid hzN; clear hzN; have HSN := Lib.hid hsN; clear hsN
          go_wp2_with fail
          go_quiet (fail)
          go_wp2_with fail
          go_quiet (fail)
          go_wp2_with fail
          refine (IH.out (s.size - (p + 1)) (by omega) pb s (p + 1) (c + 2) _ (HRN.out _) (by omega) (by omega) (by omega) (by omega) hBp (HT.out.on (HBN.out _)) (HE.out.on (HBN.out _))).mono ?_
          rintro e w2 ⟨k2, n2, t2, ds2, sa2, cap2, ms2, p2, c2', rfl, hr3, ho3, hi3, hm3, hpost⟩
          have hz2 := ho3.size
          rw [HSN.out] at hm3 hz2
          rw [← HOK.out]
          have hzz3 := (HZN.out _).only ho3 (.inr (by omega))
          have ho3' := (HOO.out.trans (OnlyIn.refl _ _ _)).trans (OnlyIn.refl _ _ _)
          have ho4 := (HON.out _).trans ho3
          obtain ⟨r0, r1, r2, r3, g0, g1, g2, g3⟩ := hzz3
          clear c0 c1 c2 f1 f2 ho3' ho3
          have hpw2 : pb < w2.heap.size := by omega
          have hpw3 : w.heap.size < w2.heap.size := by omega
          cases hb : okC (rd (s.data.toList.drop a)) c with
          | false =>
            have hok := hb
            clear hpost
            have HR3 := Lib.hid hr3; clear hr3; have HO4 := Lib.hid ho4; clear ho4; have HI3 := Lib.hid hi3; clear hi3; have HM3 := Lib.hid hm3; clear hm3; have HB := Lib.hid hb; clear hb; have HOK := Lib.hid hok; clear hok
            go_wp2_with fail
            refine bodyPost_ret (v := .tuple #[.agg #[.int .i64 0, .int .i64 0, .string ⟨#[]⟩, .slice none 0 0], .bool false]) (by simp (disch := (first | omega | (simp; done) | (simp; omega))) [results, Tryd.results33, go_sem, r0, r1, r2, r3]) rfl ?_
            refine ⟨0, 0, ⟨#[]⟩, [], none, 0, [], p2, c2', by rw [HOK.out]; rfl, ?_, ?_, rfl, M.Mine.nil _ _ _ _ (by decide), fun hh => by rw [HOK.out] at hh; cases hh⟩
            · exact HR3.out.below (B := w.heap.size) (by (repeat (first | with_reducible assumption | with_reducible exact Below.refl _ _ | with_reducible refine Below.drew ?_ | with_reducible refine belowDrewN ?_ _ | ((with_reducible refine Below.setCell ?_ ?_ _); rotate_left; focus (first | omega | (simp; done) | (simp; omega))) | ((with_reducible refine Below.alloc ?_ ?_ _); rotate_left; focus (first | omega | (simp; done) | (simp; omega)))))) hpw
            · exact HO4.out.thenBelow (by (repeat (first | with_reducible assumption | with_reducible exact Below.refl _ _ | with_reducible refine Below.drew ?_ | with_reducible refine belowDrewN ?_ _ | ((with_reducible refine Below.setCell ?_ ?_ _); rotate_left; focus (first | omega | (simp; done) | (simp; omega))) | ((with_reducible refine Below.alloc ?_ ?_ _); rotate_left; focus (first | omega | (simp; done) | (simp; omega))))))
          | true =>
            obtain ⟨hres, hpa, hpz, hcc⟩ := hpost (by rw [← HOK.out]; exact hb)
            have hres2 : rd (s.data.toList.drop a) = some (.mk 0 0 ⟨#[]⟩ [quoteD, .mk k2 n2 t2 ds2], s.data.toList.drop p2) := by rw [HRD.out, hres]; rfl
            have hN : ∀ W : World, W.heap.size = w2.heap.size → (∀ b, w.heap.size + 1 ≤ b → b < w2.heap.size → W.heap[b]? = w2.heap[b]?) → (M.sl (some ⟨w2.heap.size + 1, 0, none⟩) 2 4 43 [(M.ag [.c (.int .i64 1), .c (.int .i64 0), .c (.string ⟨#[113, 117, 111, 116, 101]⟩), .sl none 0 4 43 []]), (M.ag [.c (.int .i64 k2), .c (.int .i64 n2), .c (.string t2), .sl sa2 cap2 4 43 ms2])]).Mine ((W.alloc (.cells #[.int .i64 k2, .int .i64 n2, .string t2, .slice sa2 ms2.length cap2] 43)).alloc (.cells #[.int .i64 1, .int .i64 0, .string ⟨#[113, 117, 111, 116, 101]⟩, .slice none 0 0, .int .i64 k2, .int .i64 n2, .string t2, .slice sa2 ms2.length cap2] 43)) (w.heap.size + 1) := fun W hW1 hW2 => by
              have hmW : (M.sl sa2 cap2 4 43 ms2).Mine W (w.heap.size + 1) := M.Mine.mono ⟨M.Own.frame _ hm3.own fun b hb => hW2 b (by have := (hm3.lt b hb).1; omega) (hm3.lt b hb).2, hm3.dup⟩ (by omega)
              have := M.Mine.new (w := W.alloc (.cells #[.int .i64 k2, .int .i64 n2, .string t2, .slice sa2 ms2.length cap2] 43)) (lo := w.heap.size + 1) (sz := 4) (n := 2) (e := 43) (cs := #[.int .i64 1, .int .i64 0, .string ⟨#[113, 117, 111, 116, 101]⟩, .slice none 0 0, .int .i64 k2, .int .i64 n2, .string t2, .slice sa2 ms2.length cap2]) (xs := [(M.ag [.c (.int .i64 1), .c (.int .i64 0), .c (.string ⟨#[113, 117, 111, 116, 101]⟩), .sl none 0 4 43 []]), (M.ag [.c (.int .i64 k2), .c (.int .i64 n2), .c (.string t2), .sl sa2 cap2 4 43 ms2])]) rfl (by simp; omega) rfl (by decide) (fun x hx => by simp at hx; rcases hx with rfl | rfl <;> rfl) (by decide)
                ⟨⟨⟨rfl, rfl, rfl, (M.Mine.nil _ _ 4 43 (by decide)).own, trivial⟩, (Dat.mine (k := k2) (n := n2) (s := t2) (hmW.below (by (repeat (first | with_reducible assumption | with_reducible exact Below.refl _ _ | with_reducible refine Below.drew ?_ | with_reducible refine belowDrewN ?_ _ | ((with_reducible refine Below.setCell ?_ ?_ _); rotate_left; focus (first | omega | (simp; done) | (simp; omega))) | ((with_reducible refine Below.alloc ?_ ?_ _); rotate_left; focus (first | omega | (simp; done) | (simp; omega)))))))).own, trivial⟩, by simpa [M.blocksL, M.blocks, addrBlocks] using hm3.dup⟩
              rwa [World.size_alloc, hW1] at this
            have hi4 : Dat.IsL 43 [quoteD, .mk k2 n2 t2 ds2] [(M.ag [.c (.int .i64 1), .c (.int .i64 0), .c (.string ⟨#[113, 117, 111, 116, 101]⟩), .sl none 0 4 43 []]), (M.ag [.c (.int .i64 k2), .c (.int .i64 n2), .c (.string t2), .sl sa2 cap2 4 43 ms2])] := ⟨_, _, rfl, ⟨none, 0, [], rfl, rfl⟩, _, _, rfl, ⟨_, _, _, rfl, hi3⟩, rfl⟩
            have hct : c2' = c + (Dat.mk 0 0 ⟨#[]⟩ [quoteD, .mk k2 n2 t2 ds2]).count := by rw [hcc]; simp only [Dat.count, Dat.countL, quoteD]; omega
            clear hcc
            have HR3 := Lib.hid hr3; clear hr3; have HO4 := Lib.hid ho4; clear ho4; have HI3 := Lib.hid hi3; clear hi3; have HM3 := Lib.hid hm3; clear hm3; have HB := Lib.hid hb; clear hb; have HRES := Lib.hid hres; clear hres; have HRES2 := Lib.hid hres2; clear hres2; have HN := Lib.hid hN; clear hN; have HI4 := Lib.hid hi4; clear hi4; have HCT := Lib.hid hct; clear hct
            go_wp2_with fail
            refine bodyPost_ret (v := .tuple #[.agg #[.int .i64 0, .int .i64 0, .string ⟨#[]⟩, .slice (some ⟨w2.heap.size + 1, 0, none⟩) 2 2], .bool true]) (by simp (disch := (first | omega | (simp; done) | (simp; omega))) [results, Tryd.results33, go_sem, r0, r1, r2, r3]) rfl ?_
            refine ⟨0, 0, ⟨#[]⟩, [quoteD, .mk k2 n2 t2 ds2], some ⟨w2.heap.size + 1, 0, none⟩, 2, [(M.ag [.c (.int .i64 1), .c (.int .i64 0), .c (.string ⟨#[113, 117, 111, 116, 101]⟩), .sl none 0 4 43 []]), (M.ag [.c (.int .i64 k2), .c (.int .i64 n2), .c (.string t2), .sl sa2 cap2 4 43 ms2])], p2, c2', by rw [HB.out]; rfl, ?_, ?_, HI4.out, ?_, fun _ => ⟨HRES2.out, by omega, hpz, HCT.out⟩⟩
            · exact HR3.out.below (B := w.heap.size) (by (repeat (first | with_reducible assumption | with_reducible exact Below.refl _ _ | with_reducible refine Below.drew ?_ | with_reducible refine belowDrewN ?_ _ | ((with_reducible refine Below.setCell ?_ ?_ _); rotate_left; focus (first | omega | (simp; done) | (simp; omega))) | ((with_reducible refine Below.alloc ?_ ?_ _); rotate_left; focus (first | omega | (simp; done) | (simp; omega)))))) hpw
            · exact HO4.out.thenBelow (by (repeat (first | with_reducible assumption | with_reducible exact Below.refl _ _ | with_reducible refine Below.drew ?_ | with_reducible refine belowDrewN ?_ _ | ((with_reducible refine Below.setCell ?_ ?_ _); rotate_left; focus (first | omega | (simp; done) | (simp; omega))) | ((with_reducible refine Below.alloc ?_ ?_ _); rotate_left; focus (first | omega | (simp; done) | (simp; omega))))))
            · exact (HN.out _ (by simp) (fun b h1 h2 => by simp (disch := (first | omega | (simp; omega))) only [heapSet])).mono (by omega)
        have n39 : (b == 39) = false := by simp [h39]
        rw [n39] at e39
        by_cases h34 : b = 34
        · rw [h34] at hs2
          have y34 : (b == 34) = true := by simp [h34]
          rw [y34] at e34
          have hrd := rd_str hs2
          clear y34 n40 n41 n39
          obtain ⟨r0, r1, r2, r3, g0, g1, g2, g3⟩ := id hzz2
          clear hzz1
          have HSK := Lib.hid hsk; clear hsk; have HR1 := Lib.hid hr1; clear hr1; have HOO := Lib.hid hoo; clear hoo; have HD := Lib.hid hd; clear hd; have HRD := Lib.hid hrd; clear hrd; have HR2 := Lib.hid hr2; clear hr2; have HO2 := Lib.hid ho2; clear ho2; have HS2 := Lib.hid hs2; clear hs2; have H40 := Lib.hid h40; clear h40; have H41 := Lib.hid h41; clear h41; have H39 := Lib.hid h39; clear h39; have H34 := Lib.hid h34; clear h34; have HZZ2 := Lib.hid hzz2; clear hzz2
          go_wp2_with fail
          go_quiet (fail)
          go_wp2_with fail
          go_quiet (fail)
          go_wp2_with fail
          obtain ⟨q, hqp⟩ : ∃ q, q = p + 1 := ⟨_, rfl⟩
          have hqi : (p : Int) + 1 = (q : Int) := by omega
          have HRD' := HRD.out
          rw [← hqp] at HRD'
          rw [hqi]
          have hqa : p + 1 ≤ q := by omega
          have hqb : q ≤ p + 1 := by omega
          clear hqi HRD hqp
          have HRD := Lib.hid HRD'
          clear HRD'
          go_loopg [10] (s.size - q) (fun k t wr => ∃ j : Nat, k = s.size - j ∧ t = .int .i64 j ∧ Span noQuote s.data.toList q j ∧ j ≤ s.size ∧ RdAt pb s p (.int .i64 ((c + 1 : Nat) : Int)) wr ∧ OnlyIn pb (pb + 1) w wr ∧ Zero w.heap.size wr)
          case atStart => exact ⟨q, rfl, rfl, Span.start _ _ _, by omega, HR2.out.drewN _, HO2.out.drewN _, HZZ2.out.of rfl⟩
          case round =>
            obtain ⟨j, rfl, rfl, hsp, hjs, hrj, hoj, hzj⟩ := hrel
            clear c0 c1 c2 f1 f2 r0 r1 r2 r3 g0 g1 g2 g3
            obtain ⟨c0, c1, c2, f1, f2⟩ := id hrj
            obtain ⟨r0, r1, r2, r3, g0, g1, g2, g3⟩ := id hzj
            have hpj := hsp.le
            by_cases hlj : j < s.size
            · have hdj := drop_at hlj
              have hgl : s.data.toList[j]'(by simpa using hlj) = s[j]'hlj := rfl
              have ej : (((s[j]'hlj).toNat : Int) == 34) = (s[j]'hlj == 34) := byteEq _ 34
              generalize hBj : s[j]'hlj = bj at *
              by_cases hq : bj = 34
              · have yq : (bj == 34) = true := by simp [hq]
                rw [yq] at ej
                obtain ⟨hst1, hst2⟩ := hsp.stop (by simpa using hlj) (by rw [hgl, hq]; rfl)
                have hex := extract_eq hst1.symm
                obtain ⟨T, hT⟩ : ∃ T : ByteArray, T = ⟨((s.data.toList.drop q).takeWhile noQuote).toArray⟩ := ⟨_, rfl⟩
                rw [← hT] at hex
                have hTs : T.size ≤ s.size := by rw [← hex, ByteArray.size_extract]; omega
                have hres : rd (s.data.toList.drop a) = if strB T = true then some (.mk 4 0 T [], s.data.toList.drop (j + 1)) else none := by
                  rw [HRD.out]; unfold strR; rw [← hT, hst2, hdj]
                have hok : okC (rd (s.data.toList.drop a)) c = strB T := by
                  rw [hres]
                  cases strB T with
                  | true => simp [okC, Dat.count, Dat.countL]; omega
                  | false => rfl
                have hrq := hrj.move (q := j + 1) (y := (j : Int) + 1) (by omega)
                have hoq := hoj.put 1 (.int .i64 ((j : Int) + 1))
                have hzq : Zero w.heap.size (wr.setCell ⟨pb, 1, none⟩ (.int .i64 ((j : Int) + 1))) := hzj.of (heapSet _ _ _ _ (by simp; omega))
                have hcall : ∀ W, Calls Tryd.prog 64 #[.string (s.extract q j)] W (RetEq (.bool (strB T)) W) := fun W => by rw [hex]; exact stringText_calls T W (by omega)
                clear hst1 hst2 hT yq hgl
                have HSP := Lib.hid hsp; clear hsp; have HRJ := Lib.hid hrj; clear hrj; have HOJ := Lib.hid hoj; clear hoj; have HZJ := Lib.hid hzj; clear hzj; have HDJ := Lib.hid hdj; clear hdj; have HQ := Lib.hid hq; clear hq; have HEX := Lib.hid hex; clear hex; have HRES := Lib.hid hres; clear hres; have HOK := Lib.hid hok; clear hok; have HRQ := Lib.hid hrq; clear hrq; have HOQ := Lib.hid hoq; clear hoq; have HZQ := Lib.hid hzq; clear hzq; have HCALL := Lib.hid hcall; clear hcall
                go_wp2_with fail
                go_region_law (first | (go_simp; go_at_call 64; (with_reducible refine (HCALL.out _).mono ?_); rintro e w9 ⟨rfl, rfl⟩))
                all_goals
                  go_wp2_with fail
                  refine bodyPost_ret (v := .tuple #[.agg #[.int .i64 4, .int .i64 0, .string (s.extract q j), .slice none 0 0], .bool (strB T)]) (by simp (disch := (first | omega | (simp; done) | (simp; omega))) [results, Tryd.results33, go_sem, r0, r1, r2, r3]) rfl ?_
                  refine ⟨4, 0, T, [], none, 0, [], j + 1, c + 1, by rw [HOK.out, HEX.out]; rfl, ?_, ?_, rfl, M.Mine.nil _ _ _ _ (by decide), fun hh => ⟨by rw [HRES.out, if_pos (by rw [← HOK.out]; exact hh)], by omega, by omega, by simp [Dat.count, Dat.countL]⟩⟩
                  · exact HRQ.out.below (B := w.heap.size) (by (repeat (first | with_reducible assumption | with_reducible exact Below.refl _ _ | with_reducible refine Below.drew ?_ | with_reducible refine belowDrewN ?_ _ | ((with_reducible refine Below.setCell ?_ ?_ _); rotate_left; focus (first | omega | (simp; done) | (simp; omega))) | ((with_reducible refine Below.alloc ?_ ?_ _); rotate_left; focus (first | omega | (simp; done) | (simp; omega)))))) hpw
                  · exact HOQ.out.thenBelow (by (repeat (first | with_reducible assumption | with_reducible exact Below.refl _ _ | with_reducible refine Below.drew ?_ | with_reducible refine belowDrewN ?_ _ | ((with_reducible refine Below.setCell ?_ ?_ _); rotate_left; focus (first | omega | (simp; done) | (simp; omega))) | ((with_reducible refine Below.alloc ?_ ?_ _); rotate_left; focus (first | omega | (simp; done) | (simp; omega))))))
              · have nq : (bj == 34) = false := by simp [hq]
                rw [nq] at ej
                have hst := hsp.step (by simpa using hlj) (by rw [hgl]; simp [noQuote, hq])
                clear nq hgl
                have HSP := Lib.hid hsp; clear hsp; have HRJ := Lib.hid hrj; clear hrj; have HOJ := Lib.hid hoj; clear hoj; have HZJ := Lib.hid hzj; clear hzj; have HDJ := Lib.hid hdj; clear hdj; have HQ := Lib.hid hq; clear hq; have HST := Lib.hid hst; clear hst
                go_wp2_with fail
                go_roundg (s.size - (j + 1))
                case measure => omega
                case rel => exact ⟨j + 1, rfl, by go_num, HST.out, by omega, HRJ.out, HOJ.out, HZJ.out⟩
            · obtain ⟨hst1, hst2, hst3⟩ := hsp.out (by simpa using Nat.le_of_not_lt hlj)
              have hok : okC (rd (s.data.toList.drop a)) c = false := by rw [HRD.out]; unfold strR; rw [hst2, hst3]; rfl
              clear hst1 hst2 hst3
              have HSP := Lib.hid hsp; clear hsp; have HRJ := Lib.hid hrj; clear hrj; have HOJ := Lib.hid hoj; clear hoj; have HZJ := Lib.hid hzj; clear hzj; have HOK := Lib.hid hok; clear hok
              go_wp2_with fail
              refine bodyPost_ret (v := .tuple #[.agg #[.int .i64 0, .int .i64 0, .string ⟨#[]⟩, .slice none 0 0], .bool false]) (by simp (disch := (first | omega | (simp; done) | (simp; omega))) [results, Tryd.results33, go_sem, r0, r1, r2, r3]) rfl ?_
              refine ⟨0, 0, ⟨#[]⟩, [], none, 0, [], p, c + 1, by rw [HOK.out]; rfl, ?_, ?_, rfl, M.Mine.nil _ _ _ _ (by decide), fun hh => by rw [HOK.out] at hh; cases hh⟩
              · exact HRJ.out.below (B := w.heap.size) (by (repeat (first | with_reducible assumption | with_reducible exact Below.refl _ _ | with_reducible refine Below.drew ?_ | with_reducible refine belowDrewN ?_ _ | ((with_reducible refine Below.setCell ?_ ?_ _); rotate_left; focus (first | omega | (simp; done) | (simp; omega))) | ((with_reducible refine Below.alloc ?_ ?_ _); rotate_left; focus (first | omega | (simp; done) | (simp; omega)))))) hpw
              · exact HOJ.out.thenBelow (by (repeat (first | with_reducible assumption | with_reducible exact Below.refl _ _ | with_reducible refine Below.drew ?_ | with_reducible refine belowDrewN ?_ _ | ((with_reducible refine Below.setCell ?_ ?_ _); rotate_left; focus (first | omega | (simp; done) | (simp; omega))) | ((with_reducible refine Below.alloc ?_ ?_ _); rotate_left; focus (first | omega | (simp; done) | (simp; omega))))))
        have n34 : (b == 34) = false := by simp [h34]
        rw [n34] at e34
        have hrd := rd_run hs2 h41 h39 h34 h40
        have hhd := skipL_head _ _ _ hs2
        have hrun := runB_head hhd.1 hhd.2 h41 h39 h34 h40
        clear n40 n41 n39 n34
        have hrd2 : rd (s.data.toList.drop a) = atomR (s.data.toList.drop p) := by rw [hrd, hd]
        clear hzz1 hrd
        obtain ⟨r0, r1, r2, r3, g0, g1, g2, g3⟩ := id hzz2
        have HSK := Lib.hid hsk; clear hsk; have HR1 := Lib.hid hr1; clear hr1; have HOO := Lib.hid hoo; clear hoo; have HD := Lib.hid hd; clear hd; have HRD2 := Lib.hid hrd2; clear hrd2; have HR2 := Lib.hid hr2; clear hr2; have HO2 := Lib.hid ho2; clear ho2; have HS2 := Lib.hid hs2; clear hs2; have H40 := Lib.hid h40; clear h40; have H41 := Lib.hid h41; clear h41; have H39 := Lib.hid h39; clear h39; have H34 := Lib.hid h34; clear h34; have HZZ2 := Lib.hid hzz2; clear hzz2; have HHD := Lib.hid hhd; clear hhd; have HRUN := Lib.hid hrun; clear hrun
        go_wp2_with fail
        go_quiet (fail)
        go_wp2_with fail
        go_quiet (fail)
        go_wp2_with fail
        go_loopg [] (s.size - p) (fun k wr => ∃ j : Nat, k = s.size - j ∧ Span runB s.data.toList p j ∧ j ≤ s.size ∧ RdAt pb s j (.int .i64 ((c + 1 : Nat) : Int)) wr ∧ OnlyIn pb (pb + 1) w wr ∧ Zero w.heap.size wr)
        case atStart => exact ⟨p, rfl, Span.start _ _ _, by omega, HR2.out.drewN _, HO2.out.drewN _, HZZ2.out.of rfl⟩
        case round =>
          obtain ⟨j, rfl, hsp, hjs, hrj, hoj, hzj⟩ := hrel
          clear c0 c1 c2 f1 f2 r0 r1 r2 r3 g0 g1 g2 g3
          obtain ⟨c0, c1, c2, f1, f2⟩ := id hrj
          obtain ⟨r0, r1, r2, r3, g0, g1, g2, g3⟩ := id hzj
          have hpj := hsp.le
          by_cases hlj : j < s.size
          · have hdj := drop_at hlj
            have hgl : s.data.toList[j]'(by simpa using hlj) = s[j]'hlj := rfl
            generalize hBj : s[j]'hlj = bj at *
            cases hrj2 : runB bj with
            | true =>
              have hst := hsp.step (by simpa using hlj) (by rw [hgl]; exact hrj2)
              have hne : endB bj = false := by simpa [runB] using hrj2
              have hen : ∀ W, Calls Tryd.prog 65 #[.int .u8 (bj.toNat : Int)] W (fun e w' => e = .returned (.bool false) ∧ w' = W) := fun W => by have := RetEq.same (endsRun_calls bj W); rwa [hne] at this
              clear hgl
              have HSP := Lib.hid hsp; clear hsp; have HRJ := Lib.hid hrj; clear hrj; have HOJ := Lib.hid hoj; clear hoj; have HZJ := Lib.hid hzj; clear hzj; have HDJ := Lib.hid hdj; clear hdj; have HRJ2 := Lib.hid hrj2; clear hrj2; have HST := Lib.hid hst; clear hst; have HNE := Lib.hid hne; clear hne; have HEN := Lib.hid hen; clear hen
              go_wp2_with fail
              go_quiet (first | (go_at_call 65; (with_reducible refine Calls.quiet_of_same (HEN.out _))))
              go_wp2_with fail
              go_roundg (s.size - (j + 1))
              case measure => omega
              case rel => exact ⟨j + 1, rfl, HST.out, by omega, (HRJ.out.drewN _).move (by omega), (HOJ.out.drewN _).put _ _, HZJ.out.of (by simp (disch := (first | omega | (simp; omega))) only [heapSet, heapDrewN])⟩
            | false =>
              obtain ⟨hst1, hst2⟩ := hsp.stop (by simpa using hlj) (by rw [hgl]; exact hrj2)
              have hne : endB bj = true := by simpa [runB] using hrj2
              have hen : ∀ W, Calls Tryd.prog 65 #[.int .u8 (bj.toNat : Int)] W (fun e w' => e = .returned (.bool true) ∧ w' = W) := fun W => by have := RetEq.same (endsRun_calls bj W); rwa [hne] at this
              have hex := extract_eq hst1.symm
              obtain ⟨T, hT⟩ : ∃ T : ByteArray, T = ⟨((s.data.toList.drop p).takeWhile runB).toArray⟩ := ⟨_, rfl⟩
              rw [← hT] at hex
              have hTs : T.size ≤ s.size := by rw [← hex, ByteArray.size_extract]; omega
              obtain ⟨k3, n3, t3, ok3, hv3, ha3, hb3_⟩ := atomD_parts T
              have hres : rd (s.data.toList.drop a) = (match atomD T with | none => none | some d => some (d, s.data.toList.drop j)) := by rw [HRD2.out]; unfold atomR; rw [← hT, hst2]; rfl
              have hok : okC (rd (s.data.toList.drop a)) c = ok3 := by
                rw [hres]
                cases ok3 with
                | true => rw [ha3 rfl]; simp [okC, Dat.count, Dat.countL]; omega
                | false => rw [hb3_ rfl]; rfl
              have hbw : Below B w wr := hoj.below hBp (by omega)
              have hcall : ∀ W, Below B w W → Calls Tryd.prog 66 #[.string (s.extract p j)] W (Ret (.tuple #[.agg #[.int .i64 k3, .int .i64 n3, .string t3, .slice none 0 0], .bool ok3]) W) := fun W hW => by rw [hex, ← hv3]; exact iAtomOf_calls T W (by omega) B (HT.out.on hW) (HE.out.on hW) (by have := hW.size; omega)
              have hzw := hzj.lt
              have hpr := hrj.lt
              clear hst1 hst2 hT hgl
              have HSP := Lib.hid hsp; clear hsp; have HRJ := Lib.hid hrj; clear hrj; have HOJ := Lib.hid hoj; clear hoj; have HZJ := Lib.hid hzj; clear hzj; have HDJ := Lib.hid hdj; clear hdj; have HRJ2 := Lib.hid hrj2; clear hrj2; have HNE := Lib.hid hne; clear hne; have HEN := Lib.hid hen; clear hen; have HEX := Lib.hid hex; clear hex; have HRES := Lib.hid hres; clear hres; have HOK := Lib.hid hok; clear hok; have HV3 := Lib.hid hv3; clear hv3; have HA3 := Lib.hid ha3; clear ha3; have HB3_ := Lib.hid hb3_; clear hb3_; have HCALL := Lib.hid hcall; clear hcall
              go_wp2_with fail
              go_quiet (first | (go_at_call 65; (with_reducible refine Calls.quiet_of_same (HEN.out _))))
              go_wp2_with fail
              go_region_law (first | (go_simp; go_at_call 66; (with_reducible refine (HCALL.out _ (by (repeat (first | with_reducible assumption | with_reducible exact Below.refl _ _ | with_reducible refine Below.drew ?_ | with_reducible refine belowDrewN ?_ _ | ((with_reducible refine Below.setCell ?_ ?_ _); rotate_left; focus (first | omega | (simp; done) | (simp; omega))) | ((with_reducible refine Below.alloc ?_ ?_ _); rotate_left; focus (first | omega | (simp; done) | (simp; omega))) | ((with_reducible refine Below.trans ?_ (Below.mono hbw ?_)); rotate_left; focus (first | omega | (simp; done) | (simp; omega))))))).mono ?_); rintro e w9 ⟨rfl, hb9⟩; have hz9 := hb9.size; simp only [World.size_drew, sizeDrewN] at hz9; have hr9 := (HRJ.out.of (w' := (wr.drewN _).drew) rfl).below hb9 (by simpa only [World.size_drew, sizeDrewN] using hpr); obtain ⟨y0, y1, y2, y3, m0, m1, m2, m3⟩ := (HZJ.out.of (w' := (wr.drewN _).drew) rfl).below hb9 (by simpa only [World.size_drew, sizeDrewN] using hzw); have ho9 := ((HOJ.out.drewN _).drew).trans (OnlyIn.of_below hb9); have HR9 := Lib.hid hr9; have HO9 := Lib.hid ho9; clear hr9 ho9))
              all_goals
                go_wp2_with fail
                refine bodyPost_ret (v := .tuple #[.agg #[.int .i64 k3, .int .i64 n3, .string t3, .slice none 0 0], .bool ok3]) (by simp (disch := (first | omega | (simp; done) | (simp; omega))) [results, Tryd.results33, go_sem, y0, y1, y2, y3]) rfl ?_
                refine ⟨k3, n3, t3, [], none, 0, [], j, c + 1, by rw [HOK.out]; rfl, ?_, ?_, rfl, M.Mine.nil _ _ _ _ (by decide), fun hh => ⟨by rw [HRES.out, HA3.out (by rw [← HOK.out]; exact hh)], by omega, by omega, by simp [Dat.count, Dat.countL]⟩⟩
                · exact HR9.out.below (B := w.heap.size) (by (repeat (first | with_reducible assumption | with_reducible exact Below.refl _ _ | with_reducible refine Below.drew ?_ | with_reducible refine belowDrewN ?_ _ | ((with_reducible refine Below.setCell ?_ ?_ _); rotate_left; focus (first | omega | (simp; done) | (simp; omega))) | ((with_reducible refine Below.alloc ?_ ?_ _); rotate_left; focus (first | omega | (simp; done) | (simp; omega)))))) hpw
                · exact HO9.out.thenBelow (by (repeat (first | with_reducible assumption | with_reducible exact Below.refl _ _ | with_reducible refine Below.drew ?_ | with_reducible refine belowDrewN ?_ _ | ((with_reducible refine Below.setCell ?_ ?_ _); rotate_left; focus (first | omega | (simp; done) | (simp; omega))) | ((with_reducible refine Below.alloc ?_ ?_ _); rotate_left; focus (first | omega | (simp; done) | (simp; omega))))))
          · obtain ⟨hst1, hst2, hst3⟩ := hsp.out (by simpa using Nat.le_of_not_lt hlj)
            have hex := extract_eq hst1.symm
            obtain ⟨T, hT⟩ : ∃ T : ByteArray, T = ⟨((s.data.toList.drop p).takeWhile runB).toArray⟩ := ⟨_, rfl⟩
            rw [← hT] at hex
            have hTs : T.size ≤ s.size := by rw [← hex, ByteArray.size_extract]; omega
            obtain ⟨k3, n3, t3, ok3, hv3, ha3, hb3_⟩ := atomD_parts T
            have hres : rd (s.data.toList.drop a) = (match atomD T with | none => none | some d => some (d, s.data.toList.drop j)) := by rw [HRD2.out]; unfold atomR; rw [← hT, hst2]; rfl
            have hok : okC (rd (s.data.toList.drop a)) c = ok3 := by
              rw [hres]
              cases ok3 with
              | true => rw [ha3 rfl]; simp [okC, Dat.count, Dat.countL]; omega
              | false => rw [hb3_ rfl]; rfl
            have hbw : Below B w wr := hoj.below hBp (by omega)
            have hcall : ∀ W, Below B w W → Calls Tryd.prog 66 #[.string (s.extract p j)] W (Ret (.tuple #[.agg #[.int .i64 k3, .int .i64 n3, .string t3, .slice none 0 0], .bool ok3]) W) := fun W hW => by rw [hex, ← hv3]; exact iAtomOf_calls T W (by omega) B (HT.out.on hW) (HE.out.on hW) (by have := hW.size; omega)
            have hzw := hzj.lt
            have hpr := hrj.lt
            clear hst1 hst2 hst3 hT
            have HSP := Lib.hid hsp; clear hsp; have HRJ := Lib.hid hrj; clear hrj; have HOJ := Lib.hid hoj; clear hoj; have HZJ := Lib.hid hzj; clear hzj; have HEX := Lib.hid hex; clear hex; have HRES := Lib.hid hres; clear hres; have HOK := Lib.hid hok; clear hok; have HV3 := Lib.hid hv3; clear hv3; have HA3 := Lib.hid ha3; clear ha3; have HB3_ := Lib.hid hb3_; clear hb3_; have HCALL := Lib.hid hcall; clear hcall
            go_wp2_with fail
            go_quiet (fail)
            go_wp2_with fail
            go_region_law (first | (go_simp; go_at_call 66; (with_reducible refine (HCALL.out _ (by (repeat (first | with_reducible assumption | with_reducible exact Below.refl _ _ | with_reducible refine Below.drew ?_ | with_reducible refine belowDrewN ?_ _ | ((with_reducible refine Below.setCell ?_ ?_ _); rotate_left; focus (first | omega | (simp; done) | (simp; omega))) | ((with_reducible refine Below.alloc ?_ ?_ _); rotate_left; focus (first | omega | (simp; done) | (simp; omega))) | ((with_reducible refine Below.trans ?_ (Below.mono hbw ?_)); rotate_left; focus (first | omega | (simp; done) | (simp; omega))))))).mono ?_); rintro e w9 ⟨rfl, hb9⟩; have hz9 := hb9.size; simp only [World.size_drew, sizeDrewN] at hz9; have hr9 := (HRJ.out.of (w' := (wr.drewN _).drew) rfl).below hb9 (by simpa only [World.size_drew, sizeDrewN] using hpr); obtain ⟨y0, y1, y2, y3, m0, m1, m2, m3⟩ := (HZJ.out.of (w' := (wr.drewN _).drew) rfl).below hb9 (by simpa only [World.size_drew, sizeDrewN] using hzw); have ho9 := ((HOJ.out.drewN _).drew).trans (OnlyIn.of_below hb9); have HR9 := Lib.hid hr9; have HO9 := Lib.hid ho9; clear hr9 ho9))
            all_goals
              go_wp2_with fail
              refine bodyPost_ret (v := .tuple #[.agg #[.int .i64 k3, .int .i64 n3, .string t3, .slice none 0 0], .bool ok3]) (by simp (disch := (first | omega | (simp; done) | (simp; omega))) [results, Tryd.results33, go_sem, y0, y1, y2, y3]) rfl ?_
              refine ⟨k3, n3, t3, [], none, 0, [], j, c + 1, by rw [HOK.out]; rfl, ?_, ?_, rfl, M.Mine.nil _ _ _ _ (by decide), fun hh => ⟨by rw [HRES.out, HA3.out (by rw [← HOK.out]; exact hh)], by omega, by omega, by simp [Dat.count, Dat.countL]⟩⟩
              · exact HR9.out.below (B := w.heap.size) (by (repeat (first | with_reducible assumption | with_reducible exact Below.refl _ _ | with_reducible refine Below.drew ?_ | with_reducible refine belowDrewN ?_ _ | ((with_reducible refine Below.setCell ?_ ?_ _); rotate_left; focus (first | omega | (simp; done) | (simp; omega))) | ((with_reducible refine Below.alloc ?_ ?_ _); rotate_left; focus (first | omega | (simp; done) | (simp; omega)))))) hpw
              · exact HO9.out.thenBelow (by (repeat (first | with_reducible assumption | with_reducible exact Below.refl _ _ | with_reducible refine Below.drew ?_ | with_reducible refine belowDrewN ?_ _ | ((with_reducible refine Below.setCell ?_ ?_ _); rotate_left; focus (first | omega | (simp; done) | (simp; omega))) | ((with_reducible refine Below.alloc ?_ ?_ _); rotate_left; focus (first | omega | (simp; done) | (simp; omega))))))
    · have hpe : p = s.size := by omega
      have hnil : skipL (s.data.toList.drop a) = [] := by rw [← hsk]; exact drop_out (by omega)
      have hok : okC (rd (s.data.toList.drop a)) c = false := by rw [rd_nil hnil]; rfl
      obtain ⟨r0, r1, r2, r3, g0, g1, g2, g3⟩ := hzz1
      have hr2 := (hr1.next2 (y := (c : Int) + 1) (c := c + 1) (by omega))
      have ho2 := hoo.put 2 (.int .i64 ((c : Int) + 1))
      clear hnil hpe
      have HSK := Lib.hid hsk; clear hsk; have HR1 := Lib.hid hr1; clear hr1; have HOO := Lib.hid hoo; clear hoo; have HOK := Lib.hid hok; clear hok; have HR2 := Lib.hid hr2; clear hr2; have HO2 := Lib.hid ho2; clear ho2
      go_wp2_with fail
      go_quiet (fail)
      go_wp2_with fail
      refine bodyPost_ret (v := .tuple #[.agg #[.int .i64 0, .int .i64 0, .string ⟨#[]⟩, .slice none 0 0], .bool false]) (by simp (disch := (first | omega | (simp; done) | (simp; omega))) [results, Tryd.results33, go_sem, r0, r1, r2, r3]) rfl ?_
      refine ⟨0, 0, ⟨#[]⟩, [], none, 0, [], p, c + 1, by rw [HOK.out]; rfl, ?_, ?_, rfl, M.Mine.nil _ _ _ _ (by decide), fun hh => by rw [HOK.out] at hh; cases hh⟩
      · exact (HR2.out.drewN _).below (B := w.heap.size) (by (repeat (first | with_reducible assumption | with_reducible exact Below.refl _ _ | with_reducible refine Below.drew ?_ | with_reducible refine belowDrewN ?_ _ | ((with_reducible refine Below.setCell ?_ ?_ _); rotate_left; focus (first | omega | (simp; done) | (simp; omega))) | ((with_reducible refine Below.alloc ?_ ?_ _); rotate_left; focus (first | omega | (simp; done) | (simp; omega)))))) hpw
      · exact (HO2.out.drewN _).thenBelow (by (repeat (first | with_reducible assumption | with_reducible exact Below.refl _ _ | with_reducible refine Below.drew ?_ | with_reducible refine belowDrewN ?_ _ | ((with_reducible refine Below.setCell ?_ ?_ _); rotate_left; focus (first | omega | (simp; done) | (simp; omega))) | ((with_reducible refine Below.alloc ?_ ?_ _); rotate_left; focus (first | omega | (simp; done) | (simp; omega))))))
end Go.Proofs.YtigmgfinjapchaaDoor

/-
  Walks: one datum read, the reference's side. No condition. (printed by wip/tools/mkpd8.py)
-/
set_option linter.unusedVariables false
set_option linter.unusedSimpArgs false
set_option maxRecDepth 100000
namespace Go.Proofs.YtigmgfinjapchaaDoor
open Go.RowKit

theorem wp_still_tail_drew {P : Program} {id : Nat} {Q : Exit → Act → World → Prop} {a : Act} {w : World} {l : List Oper} (n : Nat) (hm : P.follows .mixedOrders = true) (hB : Region.lexTailB .any l.toArray n = true)
    (h : wpStill P l.toArray w.drew (fun a' => wpList P l.toArray Q (l.drop n) a' w.drew) (l.take n) a) : (Code.region id l.toArray true).wp P Q a w := wp_region_still_tail n hm hB h
theorem still_skip {P : Program} {ops : Array Oper} {w : World} {Q : Act → Prop} {a : Act} {o : Oper} {rest : List Oper} (h : Region.wanted o (yielded ops a.tmps) = false) (k : wpStill P ops w Q rest (a.put o.dst undef)) : wpStill P ops w Q (o :: rest) a := by
  show if Region.wanted o (yielded ops a.tmps) then o.still P a w (wpStill P ops w Q rest) else wpStill P ops w Q rest (a.put o.dst undef)
  rw [h]
  exact k
theorem still_want {P : Program} {ops : Array Oper} {w : World} {Q : Act → Prop} {a : Act} {o : Oper} {rest : List Oper} (h : Region.wanted o (yielded ops a.tmps) = true) (k : ∀ K : Act → Prop, (∀ a, wpStill P ops w Q rest a → K a) → o.still P a w K) : wpStill P ops w Q (o :: rest) a := by
  show if Region.wanted o (yielded ops a.tmps) then o.still P a w (wpStill P ops w Q rest) else wpStill P ops w Q rest (a.put o.dst undef)
  rw [h]
  exact k _ fun _ h => h
theorem quote_sym : isSymB ⟨#[113, 117, 111, 116, 101]⟩ = true := by decide
def DtS (N : Nat) : Prop := ∀ (pb : Nat) (s : ByteArray) (a : Nat) (w : World), RdAt pb s a (.bool false) w → s.size ≤ 100000 → a ≤ s.size → s.size - a ≤ N →
    Calls Tryd.prog 31 #[.pointer (some ⟨pb, 0, none⟩)] w (RdS pb s a w w (rd (s.data.toList.drop a)))
set_option maxHeartbeats 40000000 in
theorem sRead_calls : ∀ N, DtS N := by
  intro N
  induction N using Nat.strongRecOn with
  | _ N ih =>
    intro pb s a w h hs ha hN
    have hpw := h.lt
    have hzb := Zero.new w
    have h1 : RdAt pb s a (.bool false) (w.alloc (.cells #[.int .i64 0, .int .i64 0, .string ⟨#[]⟩, .slice none 0 0] 43)) := h.below (B := w.heap.size) (by (repeat (first | with_reducible assumption | with_reducible exact Below.refl _ _ | with_reducible refine Below.drew ?_ | with_reducible refine belowDrewN ?_ _ | ((with_reducible refine Below.setCell ?_ ?_ _); rotate_left; focus (first | omega | (simp; done) | (simp; omega))) | ((with_reducible refine Below.alloc ?_ ?_ _); rotate_left; focus (first | omega | (simp; done) | (simp; omega)))))) hpw
    have H := Lib.hid h; clear h; have HZB := Lib.hid hzb; clear hzb; have H1 := Lib.hid h1; clear h1; have IH := Lib.hid ih; clear ih
    go_enter Tryd.func31, Tryd.ntmps31
    go_wp2_with fail
    refine (sSkip_calls pb s a _ _ H1.out (by omega) (by omega)).mono ?_
    rintro e w1 ⟨p, rfl, hsk, hap, hps0, hr1, ho1⟩
    have hps : p ≤ s.size := by omega
    clear hps0
    have hz1 := ho1.size
    simp only [World.size_alloc] at hz1
    have hzz1 := HZB.out.only ho1 (.inr (by omega))
    have hoo : OnlyIn pb (pb + 1) w w1 := ((OnlyIn.refl _ _ _).new _).trans ho1
    obtain ⟨c0, c1, c2, f1, f2⟩ := id hr1
    clear ho1
    by_cases hlt : p < s.size
    · have hd := drop_at hlt
      have hs2 : skipL (s.data.toList.drop a) = (s[p]'hlt) :: s.data.toList.drop (p + 1) := hsk.symm.trans hd
      have e40 : (((s[p]'hlt).toNat : Int) == 40) = (s[p]'hlt == 40) := byteEq _ 40
      have e41 : (((s[p]'hlt).toNat : Int) == 41) = (s[p]'hlt == 41) := byteEq _ 41
      have e39 : (((s[p]'hlt).toNat : Int) == 39) = (s[p]'hlt == 39) := byteEq _ 39
      have e34 : (((s[p]'hlt).toNat : Int) == 34) = (s[p]'hlt == 34) := byteEq _ 34
      generalize hB : s[p]'hlt = b at *
      by_cases h41 : b = 41
      · rw [h41] at hs2
        have y41 : (b == 41) = true := by simp [h41]
        rw [y41] at e41
        have hres : rd (s.data.toList.drop a) = none := rd_close hs2
        clear y41 e40 e39 e34
        obtain ⟨r0, r1, r2, r3, g0, g1, g2, g3⟩ := hzz1
        have HSK := Lib.hid hsk; clear hsk; have HR1 := Lib.hid hr1; clear hr1; have HOO := Lib.hid hoo; clear hoo; have HD := Lib.hid hd; clear hd; have HS2 := Lib.hid hs2; clear hs2; have H41 := Lib.hid h41; clear h41; have HRES := Lib.hid hres; clear hres
        go_wp2_with fail
        go_quiet (fail)
        go_wp2_with fail
        refine bodyPost_ret (v := .agg #[.int .i64 0, .int .i64 0, .string ⟨#[]⟩, .slice none 0 0]) (by simp (disch := (first | omega | (simp; done) | (simp; omega))) [results, Tryd.results31, go_sem, r0, r1, r2, r3]) rfl ?_
        refine ⟨0, 0, ⟨#[]⟩, [], none, 0, [], p, true, rfl, rfl, M.Mine.nil _ _ _ _ (by decide), ?_, ?_, by omega, by omega, fun h => (by cases h), fun _ => HRES.out⟩
        · exact ((HR1.out.drewN _).set2 (.bool true)).below (B := w.heap.size) (by (repeat (first | with_reducible assumption | with_reducible exact Below.refl _ _ | with_reducible refine Below.drew ?_ | with_reducible refine belowDrewN ?_ _ | ((with_reducible refine Below.setCell ?_ ?_ _); rotate_left; focus (first | omega | (simp; done) | (simp; omega))) | ((with_reducible refine Below.alloc ?_ ?_ _); rotate_left; focus (first | omega | (simp; done) | (simp; omega)))))) hpw
        · exact ((HOO.out.drewN _).put 2 (.bool true)).thenBelow (by (repeat (first | with_reducible assumption | with_reducible exact Below.refl _ _ | with_reducible refine Below.drew ?_ | with_reducible refine belowDrewN ?_ _ | ((with_reducible refine Below.setCell ?_ ?_ _); rotate_left; focus (first | omega | (simp; done) | (simp; omega))) | ((with_reducible refine Below.alloc ?_ ?_ _); rotate_left; focus (first | omega | (simp; done) | (simp; omega))))))
      have n41 : (b == 41) = false := by simp [h41]
      rw [n41] at e41
      by_cases h39 : b = 39
      · rw [h39] at hs2
        have y39 : (b == 39) = true := by simp [h39]
        rw [y39] at e39
        have hrd := rd_quote hs2
        clear y39 n41 e34 e40
        have hrN : ∀ n, RdAt pb s (p + 1) (.bool false) ((w1.drewN n).setCell ⟨pb, 1, none⟩ (.int .i64 ((p : Int) + 1))) := fun n => (hr1.drewN n).move (by omega)
        have hoN : ∀ n, OnlyIn pb (pb + 1) w ((w1.drewN n).setCell ⟨pb, 1, none⟩ (.int .i64 ((p : Int) + 1))) := fun n => (hoo.drewN n).put 1 _
        have hzN : ∀ n, Zero w.heap.size ((w1.drewN n).setCell ⟨pb, 1, none⟩ (.int .i64 ((p : Int) + 1))) := fun n => hzz1.of (by simp (disch := (first | omega | (simp; omega))) only [heapSet, heapDrewN])
        have hsN : ∀ n, ((w1.drewN n).setCell ⟨pb, 1, none⟩ (.int .i64 ((p : Int) + 1))).heap.size = w1.heap.size := fun n => by simp [sizeDrewN]
        clear hzz1
        have HSK := Lib.hid hsk; clear hsk; have HR1 := Lib.hid hr1; clear hr1; have HOO := Lib.hid hoo; clear hoo; have HD := Lib.hid hd; clear hd; have HRD := Lib.hid hrd; clear hrd; have HS2 := Lib.hid hs2; clear hs2; have H41 := Lib.hid h41; clear h41; have H39 := Lib.hid h39; clear h39; have HRN := Lib.hid hrN; clear hrN; have HON := Lib.hid hoN; clear hoN; have HZN := Lib.hid hzN; clear hzN; have HSN := Lib.hid hsN; clear hsN
        go_wp2_with fail
        go_quiet (fail)
        go_wp2_with fail
        go_quiet (fail)
        go_wp2_with fail
        refine (sSymbolDatum_calls ⟨#[113, 117, 111, 116, 101]⟩ _ (by decide)).mono ?_
        rintro e w2 ⟨qa, qc, qm, rfl, hiq, hmq, hbq⟩
        rw [HSN.out] at hmq
        simp only [quote_sym, Dat.k_mk, Dat.n_mk, Dat.s_mk, Dat.ds_mk, onlyN_t, onlyS_t] at hiq ⊢
        obtain rfl : qm = [] := by simpa [Dat.IsL] using hiq
        have hzq := hbq.size
        rw [HSN.out] at hzq
        have hr2 := (HRN.out _).below hbq (by rw [HSN.out]; omega)
        have ho2 := (HON.out _).trans (OnlyIn.of_below hbq)
        have hzz2 := (HZN.out _).below hbq (by rw [HSN.out]; omega)
        clear hiq c0 c1 c2 f1 f2
        have HR2 := Lib.hid hr2; clear hr2; have HO2 := Lib.hid ho2; clear ho2; have HZZ2 := Lib.hid hzz2; clear hzz2; have HMQ := Lib.hid hmq; clear hmq
        go_wp2_with fail
        refine (IH.out (s.size - (p + 1)) (by omega) pb s (p + 1) _ HR2.out (by omega) (by omega) (by omega)).mono ?_
        rintro e w3 ⟨k2, n2, t2, ds2, sa2, cap2, ms2, p2, bad, rfl, hi3, hm3, hr3, ho3, hp1, hp2, hgood, hbad⟩
        have hz3 := ho3.size
        have hq3 := HMQ.out.keep (w' := w3) (fun b h1 h2 => ho3.block b h2 (.inr (by omega)))
        have ho4 := HO2.out.trans ho3
        obtain ⟨r0, r1, r2, r3, g0, g1, g2, g3⟩ := HZZ2.out.only ho3 (.inr (by omega))
        have hzw3 : w.heap.size < w3.heap.size := by omega
        have hN : ∀ W : World, W.heap.size = w3.heap.size → (∀ b, w.heap.size + 1 ≤ b → b < w3.heap.size → W.heap[b]? = w3.heap[b]?) → (M.sl (some ⟨w3.heap.size, 0, none⟩) 2 4 43 [(M.ag [.c (.int .i64 1), .c (.int .i64 0), .c (.string ⟨#[113, 117, 111, 116, 101]⟩), .sl qa qc 4 43 []]), (M.ag [.c (.int .i64 k2), .c (.int .i64 n2), .c (.string t2), .sl sa2 cap2 4 43 ms2])]).Mine (W.alloc (.cells #[.int .i64 1, .int .i64 0, .string ⟨#[113, 117, 111, 116, 101]⟩, .slice qa 0 qc, .int .i64 k2, .int .i64 n2, .string t2, .slice sa2 ms2.length cap2] 43)) (w.heap.size + 1) := fun W hW1 hW2 => by
          have hqW : (M.sl qa qc 4 43 []).Mine W (w.heap.size + 1) := M.Mine.mono ⟨M.Own.frame _ hq3.own fun b hb => hW2 b (by have := (hq3.lt b hb).1; omega) (hq3.lt b hb).2, hq3.dup⟩ (by omega)
          have hmW : (M.sl sa2 cap2 4 43 ms2).Mine W (w.heap.size + 1) := M.Mine.mono ⟨M.Own.frame _ hm3.own fun b hb => hW2 b (by have := (hm3.lt b hb).1; omega) (hm3.lt b hb).2, hm3.dup⟩ (by omega)
          have := M.Mine.new (w := W) (lo := w.heap.size + 1) (sz := 4) (n := 2) (e := 43) (cs := #[.int .i64 1, .int .i64 0, .string ⟨#[113, 117, 111, 116, 101]⟩, .slice qa 0 qc, .int .i64 k2, .int .i64 n2, .string t2, .slice sa2 ms2.length cap2]) (xs := [(M.ag [.c (.int .i64 1), .c (.int .i64 0), .c (.string ⟨#[113, 117, 111, 116, 101]⟩), .sl qa qc 4 43 []]), (M.ag [.c (.int .i64 k2), .c (.int .i64 n2), .c (.string t2), .sl sa2 cap2 4 43 ms2])]) rfl (by omega) rfl (by decide) (fun x hx => by simp at hx; rcases hx with rfl | rfl <;> rfl) (by decide)
            ⟨⟨(Dat.mine (k := 1) (n := 0) (s := ⟨#[113, 117, 111, 116, 101]⟩) hqW).own, (Dat.mine (k := k2) (n := n2) (s := t2) hmW).own, trivial⟩, by
              have d1 := hq3.dup
              have d2 := hm3.dup
              simp only [M.blocksL, M.blocks, List.append_nil, List.nil_append] at d1 d2 ⊢
              refine List.nodup_append.2 ⟨d1, d2, fun b hb1 b' hb2 he => ?_⟩
              subst he
              have e1 := (HMQ.out.lt b (by simpa [M.blocks, M.blocksL] using hb1)).2
              have e2 := (hm3.lt b (by simpa [M.blocks, M.blocksL] using hb2)).1
              omega⟩
          rwa [hW1] at this
        have hi4 : Dat.IsL 43 [quoteD, (.mk k2 n2 t2 ds2)] [(M.ag [.c (.int .i64 1), .c (.int .i64 0), .c (.string ⟨#[113, 117, 111, 116, 101]⟩), .sl qa qc 4 43 []]), (M.ag [.c (.int .i64 k2), .c (.int .i64 n2), .c (.string t2), .sl sa2 cap2 4 43 ms2])] := ⟨_, _, rfl, ⟨qa, qc, [], rfl, rfl⟩, _, _, rfl, ⟨_, _, _, rfl, hi3⟩, rfl⟩
        have hgood2 : bad = false → p2 ≤ s.size ∧ rd (s.data.toList.drop a) = some (.mk 0 0 ⟨#[]⟩ [quoteD, (.mk k2 n2 t2 ds2)], s.data.toList.drop p2) := fun h => ⟨(hgood h).1, by rw [HRD.out, (hgood h).2]; rfl⟩
        have hbad2 : bad = true → rd (s.data.toList.drop a) = none := fun h => by rw [HRD.out, hbad h]; rfl
        clear hgood hbad
        have HR3 := Lib.hid hr3; clear hr3; have HO3 := Lib.hid ho3; clear ho3; have HO4 := Lib.hid ho4; clear ho4; have HI3 := Lib.hid hi3; clear hi3; have HM3 := Lib.hid hm3; clear hm3; have HQ3 := Lib.hid hq3; clear hq3; have HN := Lib.hid hN; clear hN; have HI4 := Lib.hid hi4; clear hi4; have HGOOD2 := Lib.hid hgood2; clear hgood2; have HBAD2 := Lib.hid hbad2; clear hbad2
        go_wp2_with fail
        refine bodyPost_ret (v := .agg #[.int .i64 0, .int .i64 0, .string ⟨#[]⟩, .slice (some ⟨w3.heap.size, 0, none⟩) 2 2]) (by simp (disch := (first | omega | (simp; done) | (simp; omega))) [results, Tryd.results31, go_sem, r0, r1, r2, r3]) rfl ?_
        refine ⟨0, 0, ⟨#[]⟩, [quoteD, (.mk k2 n2 t2 ds2)], some ⟨w3.heap.size, 0, none⟩, 2, [(M.ag [.c (.int .i64 1), .c (.int .i64 0), .c (.string ⟨#[113, 117, 111, 116, 101]⟩), .sl qa qc 4 43 []]), (M.ag [.c (.int .i64 k2), .c (.int .i64 n2), .c (.string t2), .sl sa2 cap2 4 43 ms2])], p2, bad, rfl, HI4.out, ?_, ?_, ?_, by omega, by omega, HGOOD2.out, HBAD2.out⟩
        · exact (HN.out _ (by simp) (fun b h1 h2 => by simp (disch := (first | omega | (simp; omega))) only [heapSet])).mono (by omega)
        · exact HR3.out.below (B := w.heap.size) (by (repeat (first | with_reducible assumption | with_reducible exact Below.refl _ _ | with_reducible refine Below.drew ?_ | with_reducible refine belowDrewN ?_ _ | ((with_reducible refine Below.setCell ?_ ?_ _); rotate_left; focus (first | omega | (simp; done) | (simp; omega))) | ((with_reducible refine Below.alloc ?_ ?_ _); rotate_left; focus (first | omega | (simp; done) | (simp; omega)))))) hpw
        · exact HO4.out.thenBelow (by (repeat (first | with_reducible assumption | with_reducible exact Below.refl _ _ | with_reducible refine Below.drew ?_ | with_reducible refine belowDrewN ?_ _ | ((with_reducible refine Below.setCell ?_ ?_ _); rotate_left; focus (first | omega | (simp; done) | (simp; omega))) | ((with_reducible refine Below.alloc ?_ ?_ _); rotate_left; focus (first | omega | (simp; done) | (simp; omega))))))
      have n39 : (b == 39) = false := by simp [h39]
      rw [n39] at e39
      by_cases h34 : b = 34
      · rw [h34] at hs2
        have y34 : (b == 34) = true := by simp [h34]
        rw [y34] at e34
        have hrd := rd_str hs2
        clear y34 n41 n39 e40
        obtain ⟨r0, r1, r2, r3, g0, g1, g2, g3⟩ := id hzz1
        have HSK := Lib.hid hsk; clear hsk; have HR1 := Lib.hid hr1; clear hr1; have HOO := Lib.hid hoo; clear hoo; have HD := Lib.hid hd; clear hd; have HS2 := Lib.hid hs2; clear hs2; have H41 := Lib.hid h41; clear h41; have H39 := Lib.hid h39; clear h39; have H34 := Lib.hid h34; clear h34; have HZZ1 := Lib.hid hzz1; clear hzz1
        go_wp2_with fail
        go_quiet (fail)
        go_wp2_with fail
        go_quiet (fail)
        go_wp2_with fail
        obtain ⟨q, hqp⟩ : ∃ q, q = p + 1 := ⟨_, rfl⟩
        have hqi : (p : Int) + 1 = (q : Int) := by omega
        rw [← hqp] at hrd
        rw [hqi]
        have hqa : p + 1 ≤ q := by omega
        have hqb : q ≤ p + 1 := by omega
        clear hqi hqp
        have HRD := Lib.hid hrd
        clear hrd
        go_loopg [] (s.size - q) (fun k wr => ∃ j : Nat, k = s.size - j ∧ Span noQuote s.data.toList q j ∧ j ≤ s.size ∧ RdAt pb s j (.bool false) wr ∧ OnlyIn pb (pb + 1) w wr ∧ Zero w.heap.size wr)
        case atStart => exact ⟨q, rfl, Span.start _ _ _, by omega, (HR1.out.drewN _).move rfl, (HOO.out.drewN _).put _ _, HZZ1.out.of (by simp (disch := (first | omega | (simp; omega))) only [heapSet, heapDrewN])⟩
        case round =>
          obtain ⟨j, rfl, hsp, hjs, hrj, hoj, hzj⟩ := hrel
          clear c0 c1 c2 f1 f2 r0 r1 r2 r3 g0 g1 g2 g3
          obtain ⟨c0, c1, c2, f1, f2⟩ := id hrj
          obtain ⟨r0, r1, r2, r3, g0, g1, g2, g3⟩ := id hzj
          have hpj := hsp.le
          have hzw := hzj.lt
          have hpr := hrj.lt
          by_cases hlj : j < s.size
          · have hdj := drop_at hlj
            have hgl : s.data.toList[j]'(by simpa using hlj) = s[j]'hlj := rfl
            have ej : (((s[j]'hlj).toNat : Int) != 34) = (s[j]'hlj != 34) := byteNe _ 34
            generalize hBj : s[j]'hlj = bj at *
            by_cases hq : bj = 34
            · have yq : (bj != 34) = false := by simp [hq]
              rw [yq] at ej
              obtain ⟨hst1, hst2⟩ := hsp.stop (by simpa using hlj) (by rw [hgl, hq]; rfl)
              have hex := extract_eq hst1.symm
              obtain ⟨T, hT⟩ : ∃ T : ByteArray, T = ⟨((s.data.toList.drop q).takeWhile noQuote).toArray⟩ := ⟨_, rfl⟩
              rw [← hT] at hex
              have hTs : T.size ≤ s.size := by rw [← hex, ByteArray.size_extract]; omega
              have hres0 : rd (s.data.toList.drop a) = if strB T = true then some (.mk 4 0 T [], s.data.toList.drop (j + 1)) else none := by
                rw [HRD.out]; unfold strR; rw [← hT, hst2, hdj]
              clear hst1 hst2 hT yq hgl
              cases hsb : strB T with
              | false =>
                have hres : rd (s.data.toList.drop a) = none := by rw [hres0, hsb]; rfl
                have hcall : ∀ W, Calls Tryd.prog 61 #[.string (s.extract q j)] W (fun e w' => e = .returned (.bool false) ∧ w' = W) := fun W => by have := RetEq.same (l1String_calls T W (by omega)); rwa [hsb, ← hex] at this
                have HSP := Lib.hid hsp; clear hsp; have HRJ := Lib.hid hrj; clear hrj; have HOJ := Lib.hid hoj; clear hoj; have HZJ := Lib.hid hzj; clear hzj; have HDJ := Lib.hid hdj; clear hdj; have HQ := Lib.hid hq; clear hq; have HEX := Lib.hid hex; clear hex; have HRES0 := Lib.hid hres0; clear hres0; have HRES := Lib.hid hres; clear hres; have HSB := Lib.hid hsb; clear hsb; have HCALL := Lib.hid hcall; clear hcall
                go_wp2_with fail
                go_quiet (fail)
                go_wp2_with fail
                go_quiet (first | (go_at_call 61; refine (HCALL.out _).mono ?_; rintro e w' ⟨rfl, rfl⟩; exact ⟨rfl, _, rfl⟩))
                go_wp2_with fail
                refine bodyPost_ret (v := .agg #[.int .i64 0, .int .i64 0, .string ⟨#[]⟩, .slice none 0 0]) (by simp (disch := (first | omega | (simp; done) | (simp; omega))) [results, Tryd.results31, go_sem, r0, r1, r2, r3]) rfl ?_
                refine ⟨0, 0, ⟨#[]⟩, [], none, 0, [], j, true, rfl, rfl, M.Mine.nil _ _ _ _ (by decide), ?_, ?_, by omega, by omega, fun h => (by cases h), fun _ => HRES.out⟩
                · exact ((HRJ.out.drewN _).set2 (.bool true)).below (B := w.heap.size) (by (repeat (first | with_reducible assumption | with_reducible exact Below.refl _ _ | with_reducible refine Below.drew ?_ | with_reducible refine belowDrewN ?_ _ | ((with_reducible refine Below.setCell ?_ ?_ _); rotate_left; focus (first | omega | (simp; done) | (simp; omega))) | ((with_reducible refine Below.alloc ?_ ?_ _); rotate_left; focus (first | omega | (simp; done) | (simp; omega)))))) hpw
                · exact ((HOJ.out.drewN _).put 2 (.bool true)).thenBelow (by (repeat (first | with_reducible assumption | with_reducible exact Below.refl _ _ | with_reducible refine Below.drew ?_ | with_reducible refine belowDrewN ?_ _ | ((with_reducible refine Below.setCell ?_ ?_ _); rotate_left; focus (first | omega | (simp; done) | (simp; omega))) | ((with_reducible refine Below.alloc ?_ ?_ _); rotate_left; focus (first | omega | (simp; done) | (simp; omega))))))
              | true =>
                have hres : rd (s.data.toList.drop a) = some (.mk 4 0 T [], s.data.toList.drop (j + 1)) := by rw [hres0, if_pos hsb]
                have hcall : ∀ W, Calls Tryd.prog 61 #[.string (s.extract q j)] W (fun e w' => e = .returned (.bool true) ∧ w' = W) := fun W => by have := RetEq.same (l1String_calls T W (by omega)); rwa [hsb, ← hex] at this
                have hcall2 : ∀ W, Calls Tryd.prog 62 #[.string (s.extract q j)] W (RetDat 43 (.mk 4 0 T []) W) := fun W => by have := sStringDatum_calls T W (by omega); rw [hsb] at this; rw [hex]; simpa using this
                have hwj : IntKind.i64.wrap (j : Int) = (j : Int) := by rw [IntKind.wrap_i64]; omega
                have hrq : ∀ n, RdAt pb s (j + 1) (.bool false) ((wr.drewN n).setCell ⟨pb, 1, none⟩ (.int .i64 ((j : Int) + 1))) := fun n => (hrj.drewN n).move (by omega)
                have hoq : ∀ n, OnlyIn pb (pb + 1) w ((wr.drewN n).setCell ⟨pb, 1, none⟩ (.int .i64 ((j : Int) + 1))) := fun n => (hoj.drewN n).put 1 _
                have hzq : ∀ n, Zero w.heap.size ((wr.drewN n).setCell ⟨pb, 1, none⟩ (.int .i64 ((j : Int) + 1))) := fun n => hzj.of (by simp (disch := (first | omega | (simp; omega))) only [heapSet, heapDrewN])
                have HSP := Lib.hid hsp; clear hsp; have HRJ := Lib.hid hrj; clear hrj; have HOJ := Lib.hid hoj; clear hoj; have HZJ := Lib.hid hzj; clear hzj; have HDJ := Lib.hid hdj; clear hdj; have HQ := Lib.hid hq; clear hq; have HEX := Lib.hid hex; clear hex; have HRES0 := Lib.hid hres0; clear hres0; have HRES := Lib.hid hres; clear hres; have HSB := Lib.hid hsb; clear hsb; have HCALL := Lib.hid hcall; clear hcall; have HCALL2 := Lib.hid hcall2; clear hcall2; have HRQ := Lib.hid hrq; clear hrq; have HOQ := Lib.hid hoq; clear hoq; have HZQ := Lib.hid hzq; clear hzq
                go_wp2_with fail
                go_quiet (fail)
                go_wp2_with fail
                go_quiet (first | (go_at_call 61; refine (HCALL.out _).mono ?_; rintro e w' ⟨rfl, rfl⟩; exact ⟨rfl, _, rfl⟩))
                go_wp2_with fail
                go_region_law (first | (go_simp; go_at_call 62; (with_reducible refine (HCALL2.out _).mono ?_); rintro e w9 ⟨sa, sc, sm, rfl, hi9, hm9, hb9⟩; have hz9 := hb9.size; simp only [World.size_drew, World.size_setCell, sizeDrewN] at hz9 hm9; (try simp only [Dat.k_mk, Dat.n_mk, Dat.s_mk, Dat.ds_mk]); have hr9 := ((HRQ.out _).of (w' := (((wr.drewN _).setCell ⟨pb, 1, none⟩ (.int .i64 ((j : Int) + 1)))).drew) rfl).below hb9 (by simpa only [World.size_drew, World.size_setCell, sizeDrewN] using hpr); obtain ⟨y0, y1, y2, y3, m0, m1, m2, m3⟩ := ((HZQ.out _).of (w' := (((wr.drewN _).setCell ⟨pb, 1, none⟩ (.int .i64 ((j : Int) + 1)))).drew) rfl).below hb9 (by simpa only [World.size_drew, World.size_setCell, sizeDrewN] using hzw); have ho9 := ((HOQ.out _).drew).trans (OnlyIn.of_below hb9); have HR9 := Lib.hid hr9; have HO9 := Lib.hid ho9; have HI9 := Lib.hid hi9; have HM9 := Lib.hid hm9; clear hr9 ho9 hi9 hm9))
                all_goals
                  go_wp2_with fail
                  refine bodyPost_ret (v := .agg #[.int .i64 4, .int .i64 0, .string T, .slice sa sm.length sc]) (by simp (disch := (first | omega | (simp; done) | (simp; omega))) [results, Tryd.results31, go_sem, y0, y1, y2, y3]) rfl ?_
                  refine ⟨4, 0, T, [], sa, sc, sm, j + 1, false, rfl, HI9.out, ?_, ?_, ?_, by omega, by omega, fun _ => ⟨by omega, HRES.out⟩, fun h => by cases h⟩
                  · exact M.Mine.mono ⟨M.Own.frame _ HM9.out.own fun b hb' => by have h1_ := HM9.out.lt b hb'; simp (disch := (first | omega | (simp; omega))) only [heapSet, heapDrewN], HM9.out.dup⟩ (by omega)
                  · exact HR9.out.below (B := w.heap.size) (by (repeat (first | with_reducible assumption | with_reducible exact Below.refl _ _ | with_reducible refine Below.drew ?_ | with_reducible refine belowDrewN ?_ _ | ((with_reducible refine Below.setCell ?_ ?_ _); rotate_left; focus (first | omega | (simp; done) | (simp; omega))) | ((with_reducible refine Below.alloc ?_ ?_ _); rotate_left; focus (first | omega | (simp; done) | (simp; omega)))))) hpw
                  · exact HO9.out.thenBelow (by (repeat (first | with_reducible assumption | with_reducible exact Below.refl _ _ | with_reducible refine Below.drew ?_ | with_reducible refine belowDrewN ?_ _ | ((with_reducible refine Below.setCell ?_ ?_ _); rotate_left; focus (first | omega | (simp; done) | (simp; omega))) | ((with_reducible refine Below.alloc ?_ ?_ _); rotate_left; focus (first | omega | (simp; done) | (simp; omega))))))
            · have nq : (bj != 34) = true := by simp [hq]
              rw [nq] at ej
              have hst := hsp.step (by simpa using hlj) (by rw [hgl]; simp [noQuote, hq])
              clear nq hgl
              have HSP := Lib.hid hsp; clear hsp; have HRJ := Lib.hid hrj; clear hrj; have HOJ := Lib.hid hoj; clear hoj; have HZJ := Lib.hid hzj; clear hzj; have HDJ := Lib.hid hdj; clear hdj; have HQ := Lib.hid hq; clear hq; have HST := Lib.hid hst; clear hst
              go_wp2_with fail
              go_quiet (fail)
              go_wp2_with fail
              go_roundg (s.size - (j + 1))
              case measure => omega
              case rel => exact ⟨j + 1, rfl, HST.out, by omega, (HRJ.out.drewN _).move (by omega), (HOJ.out.drewN _).put _ _, HZJ.out.of (by simp (disch := (first | omega | (simp; omega))) only [heapSet, heapDrewN])⟩
          · obtain ⟨hst1, hst2, hst3⟩ := hsp.out (by simpa using Nat.le_of_not_lt hlj)
            have hres : rd (s.data.toList.drop a) = none := by rw [HRD.out]; unfold strR; rw [hst2, hst3]
            clear hst1 hst2 hst3
            have HSP := Lib.hid hsp; clear hsp; have HRJ := Lib.hid hrj; clear hrj; have HOJ := Lib.hid hoj; clear hoj; have HZJ := Lib.hid hzj; clear hzj; have HRES := Lib.hid hres; clear hres
            go_wp2_with fail
            go_quiet (fail)
            go_wp2_with fail
            go_quiet (fail)
            go_wp2_with fail
            refine bodyPost_ret (v := .agg #[.int .i64 0, .int .i64 0, .string ⟨#[]⟩, .slice none 0 0]) (by simp (disch := (first | omega | (simp; done) | (simp; omega))) [results, Tryd.results31, go_sem, r0, r1, r2, r3]) rfl ?_
            refine ⟨0, 0, ⟨#[]⟩, [], none, 0, [], j, true, rfl, rfl, M.Mine.nil _ _ _ _ (by decide), ?_, ?_, by omega, by omega, fun h => (by cases h), fun _ => HRES.out⟩
            · exact ((HRJ.out.drewN _).set2 (.bool true)).below (B := w.heap.size) (by (repeat (first | with_reducible assumption | with_reducible exact Below.refl _ _ | with_reducible refine Below.drew ?_ | with_reducible refine belowDrewN ?_ _ | ((with_reducible refine Below.setCell ?_ ?_ _); rotate_left; focus (first | omega | (simp; done) | (simp; omega))) | ((with_reducible refine Below.alloc ?_ ?_ _); rotate_left; focus (first | omega | (simp; done) | (simp; omega)))))) hpw
            · exact ((HOJ.out.drewN _).put 2 (.bool true)).thenBelow (by (repeat (first | with_reducible assumption | with_reducible exact Below.refl _ _ | with_reducible refine Below.drew ?_ | with_reducible refine belowDrewN ?_ _ | ((with_reducible refine Below.setCell ?_ ?_ _); rotate_left; focus (first | omega | (simp; done) | (simp; omega))) | ((with_reducible refine Below.alloc ?_ ?_ _); rotate_left; focus (first | omega | (simp; done) | (simp; omega))))))
      have n34 : (b == 34) = false := by simp [h34]
      rw [n34] at e34
      by_cases h40 : b = 40
      · rw [h40] at hs2
        have y40 : (b == 40) = true := by simp [h40]
        rw [y40] at e40
        have hrd := rd_list hs2
        clear y40 n41 n39 n34
        have hrN : ∀ n, RdAt pb s (p + 1) (.bool false) (((w1.drewN n).setCell ⟨pb, 1, none⟩ (.int .i64 ((p : Int) + 1))).alloc (.cells #[.int .i64 0, .int .i64 0, .string ⟨#[]⟩, .slice none 0 0] 43)) := fun n => ((hr1.drewN n).move (q := p + 1) (y := (p : Int) + 1) (by omega)).below (B := w1.heap.size) (by (repeat (first | with_reducible assumption | with_reducible exact Below.refl _ _ | with_reducible refine Below.drew ?_ | with_reducible refine belowDrewN ?_ _ | ((with_reducible refine Below.setCell ?_ ?_ _); rotate_left; focus (first | omega | (simp; done) | (simp; omega))) | ((with_reducible refine Below.alloc ?_ ?_ _); rotate_left; focus (first | omega | (simp; done) | (simp; omega)))))) (by omega)
        have hoN : ∀ n, OnlyIn pb (pb + 1) w (((w1.drewN n).setCell ⟨pb, 1, none⟩ (.int .i64 ((p : Int) + 1))).alloc (.cells #[.int .i64 0, .int .i64 0, .string ⟨#[]⟩, .slice none 0 0] 43)) := fun n => ((hoo.drewN n).put 1 _).new _
        have hzN : ∀ n, Zero w.heap.size (((w1.drewN n).setCell ⟨pb, 1, none⟩ (.int .i64 ((p : Int) + 1))).alloc (.cells #[.int .i64 0, .int .i64 0, .string ⟨#[]⟩, .slice none 0 0] 43)) := fun n => hzz1.of (by simp (disch := (first | omega | (simp; omega))) only [heapSet, heapDrewN, heapNew])
        have hbN : ∀ n, Zero w1.heap.size (((w1.drewN n).setCell ⟨pb, 1, none⟩ (.int .i64 ((p : Int) + 1))).alloc (.cells #[.int .i64 0, .int .i64 0, .string ⟨#[]⟩, .slice none 0 0] 43)) := fun n => by have := Zero.new ((w1.drewN n).setCell ⟨pb, 1, none⟩ (.int .i64 ((p : Int) + 1))); simpa only [World.size_setCell, sizeDrewN] using this
        have hsN : ∀ n, (((w1.drewN n).setCell ⟨pb, 1, none⟩ (.int .i64 ((p : Int) + 1))).alloc (.cells #[.int .i64 0, .int .i64 0, .string ⟨#[]⟩, .slice none 0 0] 43)).heap.size = w1.heap.size + 1 := fun n => by simp [sizeDrewN]
        clear hzz1
        have HSK := Lib.hid hsk; clear hsk; have HR1 := Lib.hid hr1; clear hr1; have HOO := Lib.hid hoo; clear hoo; have HD := Lib.hid hd; clear hd; have HRD := Lib.hid hrd; clear hrd; have HS2 := Lib.hid hs2; clear hs2; have H41 := Lib.hid h41; clear h41; have H39 := Lib.hid h39; clear h39; have H34 := Lib.hid h34; clear h34; have H40 := Lib.hid h40; clear h40; have HRN := Lib.hid hrN; clear hrN; have HON := Lib.hid hoN; clear hoN; have HZN := Lib.hid hzN; clear hzN; have HBN := Lib.hid hbN; clear hbN; have HSN := Lib.hid hsN; clear hsN
        go_wp2_with fail
        go_quiet (fail)
        go_wp2_with fail
        go_quiet (fail)
        go_wp2_with fail
        refine (sSkip_calls pb s (p + 1) _ _ (HRN.out _) (by omega) (by omega)).mono ?_
        rintro e w2 ⟨p0, rfl, hsk0, hp00, hp01, hr2, ho2⟩
        have hz2 := ho2.size
        rw [HSN.out] at hz2
        have hzz2 := (HZN.out _).only ho2 (.inr (by omega))
        have hbz := (HBN.out _).only ho2 (.inr (by omega))
        have hbx : w2.cell? ⟨w1.heap.size, 0, none⟩ = some (.int .i64 0) ∧ w2.cell? ⟨w1.heap.size, 1, none⟩ = some (.int .i64 0) ∧ w2.cell? ⟨w1.heap.size, 2, none⟩ = some (.string ⟨#[]⟩) ∧ w2.cell? ⟨w1.heap.size, 3, none⟩ = some (.slice none 0 0) ∧ w2.frozen? ⟨w1.heap.size, 3, none⟩ = false := ⟨hbz.c0, hbz.c1, hbz.c2, hbz.c3, hbz.f3⟩
        have ho2' := (HON.out _).trans ho2
        have hsi : skipL (s.data.toList.drop p0) = s.data.toList.drop p0 := by rw [hsk0, skipL_idem]
        have hL0 : rdL (s.data.toList.drop (p + 1)) = preL [] (rdL (s.data.toList.drop p0)) := by rw [preL_nil]; exact rdL_skip (by rw [hsi, hsk0])
        clear c0 c1 c2 f1 f2 hbz
        obtain ⟨c0, c1, c2, f1, f2⟩ := id hr2
        have HR2 := Lib.hid hr2; clear hr2; have HO2 := Lib.hid ho2; clear ho2; have HZZ2 := Lib.hid hzz2; clear hzz2; have HBX := Lib.hid hbx; clear hbx; have HO2' := Lib.hid ho2'; clear ho2'; have HSI := Lib.hid hsi; clear hsi; have HL0 := Lib.hid hL0; clear hL0; have HSK0 := Lib.hid hsk0; clear hsk0
        go_wp2_with fail
        go_loopg [] (2 * (s.size - p0) + 1) (fun k wr => ∃ (j : Nat) (bad : Bool) (acc : List Dat) (a' : Option Addr) (cap' : Nat) (ms : List M), k = 2 * (s.size - j) + (if bad = true then 0 else 1) ∧ Dat.IsL 43 acc ms ∧ (M.sl a' cap' 4 43 ms).Mine wr (w1.heap.size + 1) ∧ (wr.cell? ⟨w1.heap.size, 0, none⟩ = some (.int .i64 0) ∧ wr.cell? ⟨w1.heap.size, 1, none⟩ = some (.int .i64 0) ∧ wr.cell? ⟨w1.heap.size, 2, none⟩ = some (.string ⟨#[]⟩) ∧ wr.cell? ⟨w1.heap.size, 3, none⟩ = some ((.slice a' ms.length cap')) ∧ wr.frozen? ⟨w1.heap.size, 3, none⟩ = false) ∧
            (bad = false → rdL (s.data.toList.drop (p + 1)) = preL acc (rdL (s.data.toList.drop j)) ∧ j ≤ s.size ∧ skipL (s.data.toList.drop j) = s.data.toList.drop j ∧ ms.length ≤ j) ∧ (bad = true → rdL (s.data.toList.drop (p + 1)) = none) ∧ p + 1 ≤ j ∧ j + p ≤ 2 * s.size ∧
            RdAt pb s j (.bool bad) wr ∧ OnlyIn pb (pb + 1) w wr ∧ Zero w.heap.size wr ∧ w1.heap.size + 1 ≤ wr.heap.size)
        case atStart => exact ⟨p0, false, [], none, 0, [], rfl, rfl, M.Mine.nil _ _ _ _ (by decide), HBX.out, fun _ => ⟨HL0.out, by omega, HSI.out, Nat.zero_le _⟩, fun h => (by cases h), by omega, by omega, HR2.out, HO2'.out, HZZ2.out, by omega⟩
        case round =>
          obtain ⟨j, bad, acc, a', cap', ms, rfl, hi, hm, ⟨q0, q1, q2, q3, qf⟩, hgood, hbad, hpj, hjp, hrj, hoj, hzj, hsz⟩ := hrel
          clear c0 c1 c2 f1 f2
          obtain ⟨c0, c1, c2, f1, f2⟩ := id hrj
          have hzw := hzj.lt
          have hpr := hrj.lt
          have p3 : w1.heap.size < wr.heap.size := by omega
          have hcapm := hm.in_.len
          cases bad with
          | true =>
            have hres : rd (s.data.toList.drop a) = none := by rw [HRD.out, hbad rfl]; rfl
            obtain ⟨r0, r1, r2, r3, g0, g1, g2, g3⟩ := id hzj
            clear hgood hbad
            have HI := Lib.hid hi; clear hi; have HM := Lib.hid hm; clear hm; have HRJ := Lib.hid hrj; clear hrj; have HOJ := Lib.hid hoj; clear hoj; have HZJ := Lib.hid hzj; clear hzj; have HRES := Lib.hid hres; clear hres
            go_wp2_with fail
            go_quiet (fail)
            go_wp2_with fail
            refine wp_still_tail_drew 19 (by kernel_rfl) (by kernel_rfl) ?_
            simp only [List.take_succ_cons, List.take_zero, List.drop_succ_cons, List.drop_zero]
            (with_reducible refine wpStill_step (fun K hK => ?_)); go_simp; (with_reducible refine hK _ ?_); clear hK K
            (with_reducible refine wpStill_step (fun K hK => ?_)); go_simp; (with_reducible refine hK _ ?_); clear hK K
            (with_reducible refine wpStill_step (fun K hK => ?_)); go_simp; (with_reducible refine hK _ ?_); clear hK K
            (with_reducible refine wpStill_step (fun K hK => ?_)); go_simp; (with_reducible refine hK _ ?_); clear hK K
            (with_reducible refine wpStill_step (fun K hK => ?_)); go_simp; (with_reducible refine hK _ ?_); clear hK K
            (with_reducible refine wpStill_step (fun K hK => ?_)); go_simp; (with_reducible refine hK _ ?_); clear hK K
            (with_reducible refine still_skip ?hw ?_); (case hw => kernel_rfl)
            (with_reducible refine still_skip ?hw ?_); (case hw => kernel_rfl)
            (with_reducible refine still_skip ?hw ?_); (case hw => kernel_rfl)
            (with_reducible refine still_skip ?hw ?_); (case hw => kernel_rfl)
            (with_reducible refine still_skip ?hw ?_); (case hw => kernel_rfl)
            (with_reducible refine still_skip ?hw ?_); (case hw => kernel_rfl)
            (with_reducible refine still_skip ?hw ?_); (case hw => kernel_rfl)
            (with_reducible refine still_skip ?hw ?_); (case hw => kernel_rfl)
            (with_reducible refine still_skip ?hw ?_); (case hw => kernel_rfl)
            (with_reducible refine still_skip ?hw ?_); (case hw => kernel_rfl)
            (with_reducible refine wpStill_step (fun K hK => ?_)); go_simp; (with_reducible refine hK _ ?_); clear hK K
            (with_reducible refine wpStill_step (fun K hK => ?_)); go_simp; (with_reducible refine hK _ ?_); clear hK K
            (with_reducible refine wpStill_step (fun K hK => ?_)); go_simp; (with_reducible refine hK _ ?_); clear hK K
            (with_reducible refine wpStill_nil ?_)
            go_wp2_with fail
            refine bodyPost_ret (v := .agg #[.int .i64 0, .int .i64 0, .string ⟨#[]⟩, .slice a' ms.length cap']) (by simp (disch := (first | omega | (simp; done) | (simp; omega))) [results, Tryd.results31, go_sem, r0, r1, r2, r3]) rfl ?_
            refine ⟨0, 0, ⟨#[]⟩, acc, a', cap', ms, j + 1, true, rfl, HI.out, ?_, ?_, ?_, by omega, by omega, fun h => (by cases h), fun _ => HRES.out⟩
            · exact M.Mine.mono ⟨M.Own.frame _ HM.out.own fun b hb' => by have h1_ := HM.out.lt b hb'; simp (disch := (first | omega | (simp; omega))) only [heapSet, heapDrew, heapDrewN], HM.out.dup⟩ (by omega)
            · exact (((HRJ.out.drewN _).set2 (.bool true)).move (q := j + 1) (y := (j : Int) + 1) (by omega)).below (B := w.heap.size) (by (repeat (first | with_reducible assumption | with_reducible exact Below.refl _ _ | with_reducible refine Below.drew ?_ | with_reducible refine belowDrewN ?_ _ | ((with_reducible refine Below.setCell ?_ ?_ _); rotate_left; focus (first | omega | (simp; done) | (simp; omega))) | ((with_reducible refine Below.alloc ?_ ?_ _); rotate_left; focus (first | omega | (simp; done) | (simp; omega)))))) hpw
            · exact (((HOJ.out.drewN _).put 2 (.bool true)).put 1 (.int .i64 ((j : Int) + 1))).thenBelow (by (repeat (first | with_reducible assumption | with_reducible exact Below.refl _ _ | with_reducible refine Below.drew ?_ | with_reducible refine belowDrewN ?_ _ | ((with_reducible refine Below.setCell ?_ ?_ _); rotate_left; focus (first | omega | (simp; done) | (simp; omega))) | ((with_reducible refine Below.alloc ?_ ?_ _); rotate_left; focus (first | omega | (simp; done) | (simp; omega))))))
          | false =>
            obtain ⟨hL, hjs, hsj, hmj⟩ := hgood rfl
            clear hgood hbad
            by_cases hlj : j < s.size
            · have hdj := drop_at hlj
              have ej : (((s[j]'hlj).toNat : Int) != 41) = (s[j]'hlj != 41) := byteNe _ 41
              generalize hBj : s[j]'hlj = bj at *
              by_cases hq : bj = 41
              · have yq : (bj != 41) = false := by simp [hq]
                rw [yq] at ej
                have hend : rdL (s.data.toList.drop j) = some ([], s.data.toList.drop (j + 1)) := rdL_end (by rw [hsj, hdj, hq])
                have hres : rd (s.data.toList.drop a) = some (.mk 0 0 ⟨#[]⟩ acc, s.data.toList.drop (j + 1)) := by rw [HRD.out, hL, hend]; simp [preL, listR]
                obtain ⟨r0, r1, r2, r3, g0, g1, g2, g3⟩ := id hzj
                clear yq hend
                have HI := Lib.hid hi; clear hi; have HM := Lib.hid hm; clear hm; have HRJ := Lib.hid hrj; clear hrj; have HOJ := Lib.hid hoj; clear hoj; have HZJ := Lib.hid hzj; clear hzj; have HRES := Lib.hid hres; clear hres; have HL := Lib.hid hL; clear hL; have HSJ := Lib.hid hsj; clear hsj; have HDJ := Lib.hid hdj; clear hdj; have HQ := Lib.hid hq; clear hq
                go_wp2_with fail
                go_quiet (fail)
                go_wp2_with fail
                refine wp_still_tail_drew 19 (by kernel_rfl) (by kernel_rfl) ?_
                simp only [List.take_succ_cons, List.take_zero, List.drop_succ_cons, List.drop_zero]
                (with_reducible refine wpStill_step (fun K hK => ?_)); go_simp; (with_reducible refine hK _ ?_); clear hK K
                (with_reducible refine wpStill_step (fun K hK => ?_)); go_simp; (with_reducible refine hK _ ?_); clear hK K
                (with_reducible refine wpStill_step (fun K hK => ?_)); go_simp; (with_reducible refine hK _ ?_); clear hK K
                (with_reducible refine wpStill_step (fun K hK => ?_)); go_simp; (with_reducible refine hK _ ?_); clear hK K
                (with_reducible refine wpStill_step (fun K hK => ?_)); go_simp; (with_reducible refine hK _ ?_); clear hK K
                (with_reducible refine wpStill_step (fun K hK => ?_)); go_simp; (with_reducible refine hK _ ?_); clear hK K
                (with_reducible refine still_want ?hw (fun K hK => ?_)); (case hw => kernel_rfl); go_simp; (with_reducible refine hK _ ?_); clear hK K
                (with_reducible refine still_want ?hw (fun K hK => ?_)); (case hw => kernel_rfl); go_simp; (with_reducible refine hK _ ?_); clear hK K
                (with_reducible refine still_want ?hw (fun K hK => ?_)); (case hw => kernel_rfl); go_simp; (with_reducible refine hK _ ?_); clear hK K
                (with_reducible refine still_want ?hw (fun K hK => ?_)); (case hw => kernel_rfl); go_simp; (with_reducible refine hK _ ?_); clear hK K
                (with_reducible refine still_want ?hw (fun K hK => ?_)); (case hw => kernel_rfl); go_simp; (with_reducible refine hK _ ?_); clear hK K
                (with_reducible refine still_want ?hw (fun K hK => ?_)); (case hw => kernel_rfl); go_simp; (with_reducible refine hK _ ?_); clear hK K
                (with_reducible refine still_want ?hw (fun K hK => ?_)); (case hw => kernel_rfl); go_simp; (with_reducible refine hK _ ?_); clear hK K
                (with_reducible refine still_want ?hw (fun K hK => ?_)); (case hw => kernel_rfl); go_simp; (with_reducible refine hK _ ?_); clear hK K
                (with_reducible refine still_want ?hw (fun K hK => ?_)); (case hw => kernel_rfl); go_simp; (with_reducible refine hK _ ?_); clear hK K
                (with_reducible refine still_want ?hw (fun K hK => ?_)); (case hw => kernel_rfl); go_simp; (with_reducible refine hK _ ?_); clear hK K
                (with_reducible refine wpStill_step (fun K hK => ?_)); go_simp; (with_reducible refine hK _ ?_); clear hK K
                (with_reducible refine wpStill_step (fun K hK => ?_)); go_simp; (with_reducible refine hK _ ?_); clear hK K
                (with_reducible refine wpStill_step (fun K hK => ?_)); go_simp; (with_reducible refine hK _ ?_); clear hK K
                (with_reducible refine wpStill_nil ?_)
                go_wp2_with fail
                rw [show decide (s.size ≤ j) = false by simp; omega]
                refine bodyPost_ret (v := .agg #[.int .i64 0, .int .i64 0, .string ⟨#[]⟩, .slice a' ms.length cap']) (by simp (disch := (first | omega | (simp; done) | (simp; omega))) [results, Tryd.results31, go_sem, r0, r1, r2, r3]) rfl ?_
                refine ⟨0, 0, ⟨#[]⟩, acc, a', cap', ms, j + 1, false, rfl, HI.out, ?_, ?_, ?_, by omega, by omega, fun _ => ⟨by omega, HRES.out⟩, fun h => by cases h⟩
                · exact M.Mine.mono ⟨M.Own.frame _ HM.out.own fun b hb' => by have h1_ := HM.out.lt b hb'; simp (disch := (first | omega | (simp; omega))) only [heapSet, heapDrew, heapDrewN], HM.out.dup⟩ (by omega)
                · exact (((HRJ.out.drewN _).set2 (.bool false)).move (q := j + 1) (y := (j : Int) + 1) (by omega)).below (B := w.heap.size) (by (repeat (first | with_reducible assumption | with_reducible exact Below.refl _ _ | with_reducible refine Below.drew ?_ | with_reducible refine belowDrewN ?_ _ | ((with_reducible refine Below.setCell ?_ ?_ _); rotate_left; focus (first | omega | (simp; done) | (simp; omega))) | ((with_reducible refine Below.alloc ?_ ?_ _); rotate_left; focus (first | omega | (simp; done) | (simp; omega)))))) hpw
                · exact (((HOJ.out.drewN _).put 2 (.bool false)).put 1 (.int .i64 ((j : Int) + 1))).thenBelow (by (repeat (first | with_reducible assumption | with_reducible exact Below.refl _ _ | with_reducible refine Below.drew ?_ | with_reducible refine belowDrewN ?_ _ | ((with_reducible refine Below.setCell ?_ ?_ _); rotate_left; focus (first | omega | (simp; done) | (simp; omega))) | ((with_reducible refine Below.alloc ?_ ?_ _); rotate_left; focus (first | omega | (simp; done) | (simp; omega))))))
              · have nq : (bj != 41) = true := by simp [hq]
                rw [nq] at ej
                have hsb : skipL (s.data.toList.drop j) = bj :: s.data.toList.drop (j + 1) := hsj.trans hdj
                clear nq
                have HI := Lib.hid hi; clear hi; have HM := Lib.hid hm; clear hm; have HRJ := Lib.hid hrj; clear hrj; have HOJ := Lib.hid hoj; clear hoj; have HZJ := Lib.hid hzj; clear hzj; have HL := Lib.hid hL; clear hL; have HSJ := Lib.hid hsj; clear hsj; have HDJ := Lib.hid hdj; clear hdj; have HQ := Lib.hid hq; clear hq; have HSB := Lib.hid hsb; clear hsb
                go_wp2_with fail
                go_quiet (fail)
                go_wp2_with fail
                go_region_law (first
                  | (go_simp; go_at_call 31; refine (IH.out (s.size - j) (by omega) pb s j _ (HRJ.out.of (w' := (wr.drewN _).drew) rfl) (by omega) (by omega) (by omega)).mono ?_; rintro e w4 ⟨k2, n2, t2, ds2, sa2, cap2, ms2, p2, bad2, rfl, hi4, hm4, hr4, ho4, hp1, hp2, hgood, hbad⟩; have hz4 := ho4.size; simp only [World.size_drew, sizeDrewN] at hz4 hm4; have ho4' : OnlyIn pb (pb + 1) wr w4 := ((OnlyIn.refl pb (pb + 1) wr).drewN _ |>.drew).trans ho4; have p3c : w1.heap.size < w4.heap.size := (by omega); have q3c : w4.cell? ⟨w1.heap.size, 3, none⟩ = some (.slice a' ms.length cap') := ((World.cell?_of_block (ho4'.block w1.heap.size p3 (.inr (by omega)))).trans q3); have qfc : w4.frozen? ⟨w1.heap.size, 3, none⟩ = false := ((World.frozen?_of_block (ho4'.block w1.heap.size p3 (.inr (by omega)))).trans qf))
                  | (refine step_push3 (wr := wr) rfl _ _ 31 rfl 43 _ 4 56 Tryd.underlying31 infoDat rfl (by decide) (w1.heap.size + 1) a' cap' ms rfl HM.out hsz hz4 (fun b h1 h2 => ho4'.block b h2 (.inr (by omega))) _ (M.ag [.c (.int .i64 k2), .c (.int .i64 n2), .c (.string t2), .sl sa2 cap2 4 43 ms2]) rfl rfl _ (Dat.mine hm4) (Nat.le_refl _) rfl (by unfold maxLen; omega) (by omega) ?_; intro a5 cap5 w5 hm5 hb5 hz5 hfr5; have p5c : w1.heap.size < w5.heap.size := (by omega); have q3' : w5.cell? ⟨w1.heap.size, 3, none⟩ = some (.slice a' ms.length cap') := ((World.cell?_of_block (hb5.block w1.heap.size (by omega))).trans q3c); have qf' : w5.frozen? ⟨w1.heap.size, 3, none⟩ = false := ((World.frozen?_of_block (hb5.block w1.heap.size (by omega))).trans qfc)))
                all_goals
                  have kB := (hb5.block w1.heap.size (by omega)).trans (ho4'.block w1.heap.size p3 (.inr (by omega)))
                  have q0' : w5.cell? ⟨w1.heap.size, 0, none⟩ = some (.int .i64 0) := (World.cell?_of_block kB).trans q0
                  have q1' : w5.cell? ⟨w1.heap.size, 1, none⟩ = some (.int .i64 0) := (World.cell?_of_block kB).trans q1
                  have q2' : w5.cell? ⟨w1.heap.size, 2, none⟩ = some (.string ⟨#[]⟩) := (World.cell?_of_block kB).trans q2
                  have hzr5 := HZJ.out.of ((hb5.block w.heap.size (by omega)).trans (ho4'.block w.heap.size (by omega) (.inr (by omega))))
                  have hr5 := hr4.below hb5 (by omega)
                  have ho5 := (HOJ.out.trans ho4').thenBelow (hb5.mono (by omega))
                  have hi5 : Dat.IsL 43 (acc ++ [(.mk k2 n2 t2 ds2)]) (ms ++ [(M.ag [.c (.int .i64 k2), .c (.int .i64 n2), .c (.string t2), .sl sa2 cap2 4 43 ms2])]) := HI.out.snoc ⟨_, _, _, rfl, hi4⟩
                  have HLEN5' : (ms ++ [(M.ag [.c (.int .i64 k2), .c (.int .i64 n2), .c (.string t2), .sl sa2 cap2 4 43 ms2])]).length = ms.length + 1 := by simp
                  have hgood2 : bad2 = false → rdL (s.data.toList.drop (p + 1)) = preL (acc ++ [(.mk k2 n2 t2 ds2)]) (rdL (s.data.toList.drop p2)) ∧ p2 ≤ s.size ∧ j < p2 := fun h => by
                    have hg := hgood h
                    refine ⟨by rw [HL.out, rdL_step HSB.out HQ.out hg.2, preL_preL], hg.1, ?_⟩
                    have := (rd_ok hg.2).lt
                    rw [List.length_drop, List.length_drop] at this
                    omega
                  have hbad2 : bad2 = true → rdL (s.data.toList.drop (p + 1)) = none := fun h => by rw [HL.out, rdL_bad HSB.out HQ.out (hbad h)]; rfl
                  have hr5' : RdAt pb s p2 (.bool bad2) (w5.setCell ⟨w1.heap.size, 3, none⟩ (.slice a5 (ms.length + 1) cap5)) := hr5.of (heapSet _ _ _ _ (by simp; omega))
                  clear hgood hbad c0 c1 c2 f1 f2
                  have HM5 := Lib.hid hm5; clear hm5; have HI5 := Lib.hid hi5; clear hi5; have HZR5 := Lib.hid hzr5; clear hzr5; have HR5 := Lib.hid hr5; clear hr5; have HR5' := Lib.hid hr5'; clear hr5'; have HO5 := Lib.hid ho5; clear ho5; have HI4 := Lib.hid hi4; clear hi4; have HM4 := Lib.hid hm4; clear hm4; have HR4 := Lib.hid hr4; clear hr4; have HO4 := Lib.hid ho4; clear ho4; have HO4' := Lib.hid ho4'; clear ho4'; have HFR5 := Lib.hid hfr5; clear hfr5; have HGOOD2 := Lib.hid hgood2; clear hgood2; have HBAD2 := Lib.hid hbad2; clear hbad2
                  have HLEN5 := Lib.hid HLEN5'
                  clear HLEN5'
                  go_wp2_with fail
                  refine (sSkip_calls pb s p2 _ _ HR5'.out (by omega) (by omega)).mono ?_
                  rintro e w6 ⟨p6, rfl, hsk6, hp61, hp62, hr6, ho6⟩
                  have hz6 := ho6.size
                  simp only [World.size_setCell] at hz6
                  have hk6 : ∀ b, b ≠ pb → b < w5.heap.size → w6.heap[b]? = (w5.setCell ⟨w1.heap.size, 3, none⟩ (.slice a5 (ms.length + 1) cap5)).heap[b]? := fun b h1 h2 => ho6.block b (by simpa using h2) (by omega)
                  have hB6 := hk6 w1.heap.size (by omega) p5c
                  have hbx6 : w6.cell? ⟨w1.heap.size, 0, none⟩ = some (.int .i64 0) ∧ w6.cell? ⟨w1.heap.size, 1, none⟩ = some (.int .i64 0) ∧ w6.cell? ⟨w1.heap.size, 2, none⟩ = some (.string ⟨#[]⟩) ∧ w6.cell? ⟨w1.heap.size, 3, none⟩ = some ((.slice a5 (ms ++ [(M.ag [.c (.int .i64 k2), .c (.int .i64 n2), .c (.string t2), .sl sa2 cap2 4 43 ms2])]).length cap5)) ∧ w6.frozen? ⟨w1.heap.size, 3, none⟩ = false := by
                    rw [HLEN5.out]
                    refine ⟨?_, ?_, ?_, ?_, ?_⟩
                    · rw [World.cell?_of_block hB6]; simp [go_sem, q0', q1', q2', q3', qf']
                    · rw [World.cell?_of_block hB6]; simp [go_sem, q0', q1', q2', q3', qf']
                    · rw [World.cell?_of_block hB6]; simp [go_sem, q0', q1', q2', q3', qf']
                    · rw [World.cell?_of_block hB6]; simp [go_sem, q0', q1', q2', q3', qf']
                    · rw [World.frozen?_of_block hB6]; simp [go_sem, q0', q1', q2', q3', qf']
                  have hm6 : (M.sl a5 cap5 4 43 (ms ++ [(M.ag [.c (.int .i64 k2), .c (.int .i64 n2), .c (.string t2), .sl sa2 cap2 4 43 ms2])])).Mine w6 (w1.heap.size + 1) := ⟨M.Own.frame _ HM5.out.own fun b hb => by have h1_ := HM5.out.lt b hb; rw [hk6 b (by omega) h1_.2]; exact heapSet _ _ _ _ (by simp; omega), HM5.out.dup⟩
                  have hzr6 := HZR5.out.of ((hk6 w.heap.size (by omega) (by omega)).trans (heapSet _ _ _ _ (by simp; omega)))
                  have ho6' := (HO5.out.thenBelow (show Below w.heap.size w5 (w5.setCell ⟨w1.heap.size, 3, none⟩ (.slice a5 (ms.length + 1) cap5)) by (repeat (first | with_reducible assumption | with_reducible exact Below.refl _ _ | with_reducible refine Below.drew ?_ | with_reducible refine belowDrewN ?_ _ | ((with_reducible refine Below.setCell ?_ ?_ _); rotate_left; focus (first | omega | (simp; done) | (simp; omega))) | ((with_reducible refine Below.alloc ?_ ?_ _); rotate_left; focus (first | omega | (simp; done) | (simp; omega))))))).trans ho6
                  have hsi6 : skipL (s.data.toList.drop p6) = s.data.toList.drop p6 := by rw [hsk6, skipL_idem]
                  have hg6 : bad2 = false → rdL (s.data.toList.drop (p + 1)) = preL (acc ++ [(.mk k2 n2 t2 ds2)]) (rdL (s.data.toList.drop p6)) ∧ p6 ≤ s.size ∧ skipL (s.data.toList.drop p6) = s.data.toList.drop p6 ∧ (ms ++ [(M.ag [.c (.int .i64 k2), .c (.int .i64 n2), .c (.string t2), .sl sa2 cap2 4 43 ms2])]).length ≤ p6 := fun h => by
                    have hg := HGOOD2.out h
                    refine ⟨by rw [hg.1, rdL_skip (l := s.data.toList.drop p2) (m := s.data.toList.drop p6) (by rw [hsi6, hsk6])], by have := hg.2.1; omega, hsi6, by rw [HLEN5.out]; have := hg.2.2; omega⟩
                  have HM6 := Lib.hid hm6; clear hm6; have HBX6 := Lib.hid hbx6; clear hbx6; have HZR6 := Lib.hid hzr6; clear hzr6; have HO6' := Lib.hid ho6'; clear ho6'; have HR6 := Lib.hid hr6; clear hr6; have HG6 := Lib.hid hg6; clear hg6; have HSK6 := Lib.hid hsk6; clear hsk6; have HSI6 := Lib.hid hsi6; clear hsi6; have HO6 := Lib.hid ho6; clear ho6; have HK6 := Lib.hid hk6; clear hk6; have HB6 := Lib.hid hB6; clear hB6
                  go_wp2_with fail
                  go_roundg (2 * (s.size - p6) + (if bad2 = true then 0 else 1))
                  case measure =>
                    cases bad2 with
                    | true => simp; omega
                    | false => have := (HGOOD2.out rfl).2.2; simp; omega
                  case rel => exact ⟨p6, bad2, acc ++ [(.mk k2 n2 t2 ds2)], a5, cap5, _, rfl, HI5.out, HM6.out, HBX6.out, HG6.out, HBAD2.out, by omega, by omega, HR6.out, HO6'.out, HZR6.out, by omega⟩
            · have hje : j = s.size := by omega
              have hnone : rdL (s.data.toList.drop j) = none := rdL_nil (by rw [hsj, drop_out (by omega)])
              have hres : rd (s.data.toList.drop a) = none := by rw [HRD.out, hL, hnone]; rfl
              obtain ⟨r0, r1, r2, r3, g0, g1, g2, g3⟩ := id hzj
              clear hje hnone
              have HI := Lib.hid hi; clear hi; have HM := Lib.hid hm; clear hm; have HRJ := Lib.hid hrj; clear hrj; have HOJ := Lib.hid hoj; clear hoj; have HZJ := Lib.hid hzj; clear hzj; have HRES := Lib.hid hres; clear hres; have HL := Lib.hid hL; clear hL; have HSJ := Lib.hid hsj; clear hsj
              go_wp2_with fail
              go_quiet (fail)
              go_wp2_with fail
              refine wp_still_tail_drew 19 (by kernel_rfl) (by kernel_rfl) ?_
              simp only [List.take_succ_cons, List.take_zero, List.drop_succ_cons, List.drop_zero]
              (with_reducible refine wpStill_step (fun K hK => ?_)); go_simp; (with_reducible refine hK _ ?_); clear hK K
              (with_reducible refine wpStill_step (fun K hK => ?_)); go_simp; (with_reducible refine hK _ ?_); clear hK K
              (with_reducible refine wpStill_step (fun K hK => ?_)); go_simp; (with_reducible refine hK _ ?_); clear hK K
              (with_reducible refine wpStill_step (fun K hK => ?_)); go_simp; (with_reducible refine hK _ ?_); clear hK K
              (with_reducible refine wpStill_step (fun K hK => ?_)); go_simp; (with_reducible refine hK _ ?_); clear hK K
              (with_reducible refine wpStill_step (fun K hK => ?_)); go_simp; (with_reducible refine hK _ ?_); clear hK K
              (with_reducible refine still_want ?hw (fun K hK => ?_)); (case hw => kernel_rfl); go_simp; (with_reducible refine hK _ ?_); clear hK K
              (with_reducible refine still_want ?hw (fun K hK => ?_)); (case hw => kernel_rfl); go_simp; (with_reducible refine hK _ ?_); clear hK K
              (with_reducible refine still_want ?hw (fun K hK => ?_)); (case hw => kernel_rfl); go_simp; (with_reducible refine hK _ ?_); clear hK K
              (with_reducible refine still_want ?hw (fun K hK => ?_)); (case hw => kernel_rfl); go_simp; (with_reducible refine hK _ ?_); clear hK K
              (with_reducible refine still_want ?hw (fun K hK => ?_)); (case hw => kernel_rfl); go_simp; (with_reducible refine hK _ ?_); clear hK K
              (with_reducible refine still_want ?hw (fun K hK => ?_)); (case hw => kernel_rfl); go_simp; (with_reducible refine hK _ ?_); clear hK K
              (with_reducible refine still_want ?hw (fun K hK => ?_)); (case hw => kernel_rfl); go_simp; (with_reducible refine hK _ ?_); clear hK K
              (with_reducible refine still_want ?hw (fun K hK => ?_)); (case hw => kernel_rfl); go_simp; (with_reducible refine hK _ ?_); clear hK K
              (with_reducible refine still_want ?hw (fun K hK => ?_)); (case hw => kernel_rfl); go_simp; (with_reducible refine hK _ ?_); clear hK K
              (with_reducible refine still_want ?hw (fun K hK => ?_)); (case hw => kernel_rfl); go_simp; (with_reducible refine hK _ ?_); clear hK K
              (with_reducible refine wpStill_step (fun K hK => ?_)); go_simp; (with_reducible refine hK _ ?_); clear hK K
              (with_reducible refine wpStill_step (fun K hK => ?_)); go_simp; (with_reducible refine hK _ ?_); clear hK K
              (with_reducible refine wpStill_step (fun K hK => ?_)); go_simp; (with_reducible refine hK _ ?_); clear hK K
              (with_reducible refine wpStill_nil ?_)
              go_wp2_with fail
              rw [show decide (s.size ≤ j) = true by simp; omega]
              refine bodyPost_ret (v := .agg #[.int .i64 0, .int .i64 0, .string ⟨#[]⟩, .slice a' ms.length cap']) (by simp (disch := (first | omega | (simp; done) | (simp; omega))) [results, Tryd.results31, go_sem, r0, r1, r2, r3]) rfl ?_
              refine ⟨0, 0, ⟨#[]⟩, acc, a', cap', ms, j + 1, true, rfl, HI.out, ?_, ?_, ?_, by omega, by omega, fun h => (by cases h), fun _ => HRES.out⟩
              · exact M.Mine.mono ⟨M.Own.frame _ HM.out.own fun b hb' => by have h1_ := HM.out.lt b hb'; simp (disch := (first | omega | (simp; omega))) only [heapSet, heapDrew, heapDrewN], HM.out.dup⟩ (by omega)
              · exact (((HRJ.out.drewN _).set2 (.bool true)).move (q := j + 1) (y := (j : Int) + 1) (by omega)).below (B := w.heap.size) (by (repeat (first | with_reducible assumption | with_reducible exact Below.refl _ _ | with_reducible refine Below.drew ?_ | with_reducible refine belowDrewN ?_ _ | ((with_reducible refine Below.setCell ?_ ?_ _); rotate_left; focus (first | omega | (simp; done) | (simp; omega))) | ((with_reducible refine Below.alloc ?_ ?_ _); rotate_left; focus (first | omega | (simp; done) | (simp; omega)))))) hpw
              · exact (((HOJ.out.drewN _).put 2 (.bool true)).put 1 (.int .i64 ((j : Int) + 1))).thenBelow (by (repeat (first | with_reducible assumption | with_reducible exact Below.refl _ _ | with_reducible refine Below.drew ?_ | with_reducible refine belowDrewN ?_ _ | ((with_reducible refine Below.setCell ?_ ?_ _); rotate_left; focus (first | omega | (simp; done) | (simp; omega))) | ((with_reducible refine Below.alloc ?_ ?_ _); rotate_left; focus (first | omega | (simp; done) | (simp; omega))))))
      have n40 : (b == 40) = false := by simp [h40]
      rw [n40] at e40
      have hrd := rd_run hs2 h41 h39 h34 h40
      clear n40 n41 n39 n34
      have hrd2 : rd (s.data.toList.drop a) = atomR (s.data.toList.drop p) := by rw [hrd, hd]
      clear hrd
      have HSK := Lib.hid hsk; clear hsk; have HR1 := Lib.hid hr1; clear hr1; have HOO := Lib.hid hoo; clear hoo; have HD := Lib.hid hd; clear hd; have HRD2 := Lib.hid hrd2; clear hrd2; have HS2 := Lib.hid hs2; clear hs2; have H41 := Lib.hid h41; clear h41; have H39 := Lib.hid h39; clear h39; have H34 := Lib.hid h34; clear h34; have H40 := Lib.hid h40; clear h40; have HZZ1 := Lib.hid hzz1; clear hzz1
      go_wp2_with fail
      go_quiet (fail)
      go_wp2_with fail
      go_quiet (fail)
      go_wp2_with fail
      refine (l1Atom_calls pb s p _ (HR1.out.drewN _) (by omega) (by omega)).mono ?_
      rintro e w3 ⟨k2, n2, t2, ds2, sa2, cap2, ms2, p2, bad, rfl, hi3, hm3, hr3, ho3, hp1, hp2, hgood, hbad⟩
      have hz3 := ho3.size
      simp only [sizeDrewN] at hz3 hm3
      have ho4 := (HOO.out.drewN _).trans ho3
      obtain ⟨r0, r1, r2, r3, g0, g1, g2, g3⟩ := (HZZ1.out.of (w' := w1.drewN _) rfl).only ho3 (.inr (by omega))
      clear c0 c1 c2 f1 f2
      have HR3 := Lib.hid hr3; clear hr3; have HO3 := Lib.hid ho3; clear ho3; have HO4 := Lib.hid ho4; clear ho4; have HI3 := Lib.hid hi3; clear hi3; have HM3 := Lib.hid hm3; clear hm3
      go_wp2_with fail
      refine bodyPost_ret (v := .agg #[.int .i64 k2, .int .i64 n2, .string t2, .slice sa2 ms2.length cap2]) (by simp (disch := (first | omega | (simp; done) | (simp; omega))) [results, Tryd.results31, go_sem, r0, r1, r2, r3]) rfl ?_
      refine ⟨k2, n2, t2, ds2, sa2, cap2, ms2, p2, bad, rfl, HI3.out, ?_, ?_, ?_, by omega, by omega, fun h => ⟨(hgood h).1, by rw [HRD2.out]; exact (hgood h).2⟩, fun h => by rw [HRD2.out]; exact hbad h⟩
      · exact M.Mine.mono ⟨M.Own.frame _ HM3.out.own fun b hb' => by have h1_ := HM3.out.lt b hb'; simp (disch := (first | omega | (simp; omega))) only [heapSet, heapDrewN], HM3.out.dup⟩ (by omega)
      · exact HR3.out.below (B := w.heap.size) (by (repeat (first | with_reducible assumption | with_reducible exact Below.refl _ _ | with_reducible refine Below.drew ?_ | with_reducible refine belowDrewN ?_ _ | ((with_reducible refine Below.setCell ?_ ?_ _); rotate_left; focus (first | omega | (simp; done) | (simp; omega))) | ((with_reducible refine Below.alloc ?_ ?_ _); rotate_left; focus (first | omega | (simp; done) | (simp; omega)))))) hpw
      · exact HO4.out.thenBelow (by (repeat (first | with_reducible assumption | with_reducible exact Below.refl _ _ | with_reducible refine Below.drew ?_ | with_reducible refine belowDrewN ?_ _ | ((with_reducible refine Below.setCell ?_ ?_ _); rotate_left; focus (first | omega | (simp; done) | (simp; omega))) | ((with_reducible refine Below.alloc ?_ ?_ _); rotate_left; focus (first | omega | (simp; done) | (simp; omega))))))
    · have hpe : p = s.size := by omega
      have hnil : skipL (s.data.toList.drop a) = [] := by rw [← hsk]; exact drop_out (by omega)
      have hres : rd (s.data.toList.drop a) = none := rd_nil hnil
      clear hnil hpe
      obtain ⟨r0, r1, r2, r3, g0, g1, g2, g3⟩ := hzz1
      have HSK := Lib.hid hsk; clear hsk; have HR1 := Lib.hid hr1; clear hr1; have HOO := Lib.hid hoo; clear hoo; have HRES := Lib.hid hres; clear hres
      go_wp2_with fail
      go_quiet (fail)
      go_wp2_with fail
      refine bodyPost_ret (v := .agg #[.int .i64 0, .int .i64 0, .string ⟨#[]⟩, .slice none 0 0]) (by simp (disch := (first | omega | (simp; done) | (simp; omega))) [results, Tryd.results31, go_sem, r0, r1, r2, r3]) rfl ?_
      refine ⟨0, 0, ⟨#[]⟩, [], none, 0, [], p, true, rfl, rfl, M.Mine.nil _ _ _ _ (by decide), ?_, ?_, by omega, by omega, fun h => (by cases h), fun _ => HRES.out⟩
      · exact ((HR1.out.drewN _).set2 (.bool true)).below (B := w.heap.size) (by (repeat (first | with_reducible assumption | with_reducible exact Below.refl _ _ | with_reducible refine Below.drew ?_ | with_reducible refine belowDrewN ?_ _ | ((with_reducible refine Below.setCell ?_ ?_ _); rotate_left; focus (first | omega | (simp; done) | (simp; omega))) | ((with_reducible refine Below.alloc ?_ ?_ _); rotate_left; focus (first | omega | (simp; done) | (simp; omega)))))) hpw
      · exact ((HOO.out.drewN _).put 2 (.bool true)).thenBelow (by (repeat (first | with_reducible assumption | with_reducible exact Below.refl _ _ | with_reducible refine Below.drew ?_ | with_reducible refine belowDrewN ?_ _ | ((with_reducible refine Below.setCell ?_ ?_ _); rotate_left; focus (first | omega | (simp; done) | (simp; omega))) | ((with_reducible refine Below.alloc ?_ ?_ _); rotate_left; focus (first | omega | (simp; done) | (simp; omega))))))
end Go.Proofs.YtigmgfinjapchaaDoor

/-
  Walks: data read, the program's side. Conditions: the library's table of powers of ten reads as laid, strconv.ErrSyntax holds an error.
-/
set_option linter.unusedVariables false
set_option linter.unusedSimpArgs false
set_option maxRecDepth 100000
namespace Go.Proofs.YtigmgfinjapchaaDoor
open Go.RowKit

/-- what ParseData hands back -/
def RetParse (res : Option (List Dat)) (w : World) (e : Ending) (w' : World) : Prop :=
  ∃ (a : Option Addr) (cap : Nat) (ms : List M), e = .returned (.tuple #[.slice a ms.length cap, .bool res.isSome]) ∧ Dat.IsL 43 (res.getD []) ms ∧ (M.sl a cap 4 43 ms).Mine w' w.heap.size ∧ Below w.heap.size w w'
theorem areB_count {ds : List Dat} (h : 600 < Dat.countL ds) : areB ds = false := areB_no fun h2 => by have := h2.1; omega
theorem parse_fail {s : ByteArray} {acc : List Dat} {l r : List UInt8} {b : UInt8} {cc : Nat} (h15 : ¬ 15000 < s.size) (hL : rdA s.data.toList = preA acc (rdA l)) (hcc : cc = Dat.countL acc) (hs : skipL l = b :: r) (hf : okC (rd l) cc = false) : parseB s = none := by
  cases hr : rd l with
  | none => exact parse_bad h15 (by rw [hL, rdA_bad hs hr]; rfl)
  | some x =>
    obtain ⟨d, r'⟩ := x
    rw [hr] at hf
    cases hr2 : rdA r' with
    | none => exact parse_bad h15 (by rw [hL, rdA_step hs hr, hr2]; rfl)
    | some es =>
      refine parse_not h15 (ds := acc ++ ([d] ++ es)) (by rw [hL, rdA_step hs hr, hr2]; rfl) (areB_count ?_)
      simp only [okC, decide_eq_false_iff_not] at hf
      rw [Dat.countL_append, List.singleton_append, Dat.countL]
      omega
theorem parse_end {s : ByteArray} {acc : List Dat} {l : List UInt8} (h15 : ¬ 15000 < s.size) (hL : rdA s.data.toList = preA acc (rdA l)) (hs : skipL l = []) : parseB s = if areB acc = true then some acc else none := by
  have hr : rdA s.data.toList = some acc := by rw [hL, rdA_end hs]; simp [preA]
  cases h : areB acc with
  | true => rw [parse_yes h15 hr h, if_pos rfl]
  | false => rw [parse_not h15 hr h, if_neg (by decide)]
set_option maxHeartbeats 2000000 in
theorem iParseData_calls (s : ByteArray) (w : World) (hs : s.size ≤ 9223372036854775807) (hT : Tab w.heap.size w) (hE : Sent w.heap.size w) :
    Calls Tryd.prog 12 #[.string s] w (RetParse (parseB s) w) := by
  by_cases h15 : 15000 < s.size
  · rw [parse_big h15]
    have h15i : 15000 < (s.size : Int) := by omega
    have HT := Lib.hid hT; clear hT; have HE := Lib.hid hE; clear hE
    go_enter Tryd.func12, Tryd.ntmps12
    go_wp2_with fail
    go_ret2
    exact ⟨none, 0, [], rfl, rfl, M.Mine.nil _ _ _ _ (by decide), by (repeat (first | with_reducible assumption | with_reducible exact Below.refl _ _ | with_reducible refine Below.drew ?_ | with_reducible refine belowDrewN ?_ _ | ((with_reducible refine Below.setCell ?_ ?_ _); rotate_left; focus (first | omega | (simp; done) | (simp; omega))) | ((with_reducible refine Below.alloc ?_ ?_ _); rotate_left; focus (first | omega | (simp; done) | (simp; omega)))))⟩
  have h15i : ¬ 15000 < (s.size : Int) := by omega
  have hr0 : RdAt w.heap.size s 0 (.int .i64 ((0 : Nat) : Int)) (w.alloc (.cells #[.string s, .int .i64 0, .int .i64 0] 60)) := by constructor <;> simp [go_sem]
  have HT := Lib.hid hT; clear hT; have HE := Lib.hid hE; clear hE; have HR0 := Lib.hid hr0; clear hr0
  go_enter Tryd.func12, Tryd.ntmps12
  go_wp2_with fail
  go_loopg [5] s.size (fun k t wr => ∃ (j : Nat) (acc : List Dat) (a' : Option Addr) (cap' : Nat) (ms : List M) (cc : Nat), k = s.size - j ∧ t = .slice a' ms.length cap' ∧ Dat.IsL 43 acc ms ∧ (M.sl a' cap' 4 43 ms).Mine wr (w.heap.size + 1) ∧ rdA s.data.toList = preA acc (rdA (s.data.toList.drop j)) ∧ j ≤ s.size ∧ cc = Dat.countL acc ∧ cc ≤ 600 ∧ RdAt w.heap.size s j (.int .i64 (cc : Int)) wr ∧ Below w.heap.size w wr ∧ w.heap.size + 1 ≤ wr.heap.size)
  case atStart => exact ⟨0, [], none, 0, [], 0, rfl, rfl, rfl, M.Mine.nil _ _ _ _ (by decide), by rw [List.drop_zero, preA_nil], by omega, rfl, by omega, HR0.out, by (repeat (first | with_reducible assumption | with_reducible exact Below.refl _ _ | with_reducible refine Below.drew ?_ | with_reducible refine belowDrewN ?_ _ | ((with_reducible refine Below.setCell ?_ ?_ _); rotate_left; focus (first | omega | (simp; done) | (simp; omega))) | ((with_reducible refine Below.alloc ?_ ?_ _); rotate_left; focus (first | omega | (simp; done) | (simp; omega))))), by simp⟩
  case round =>
    obtain ⟨j, acc, a', cap', ms, cc, rfl, rfl, hi, hm, hL, hjs, hcc, hc6, hrj, hbw, hsz⟩ := hrel
    have hal := hi.length
    have hac := Dat.length_le acc
    have hin := hm.in_
    have HI := Lib.hid hi; clear hi; have HM := Lib.hid hm; clear hm; have HL := Lib.hid hL; clear hL; have HRJ := Lib.hid hrj; clear hrj; have HAL := Lib.hid hal; clear hal
    go_wp2_with fail
    refine (iSkip_calls w.heap.size s j _ _ HRJ.out (by omega) (by omega)).mono ?_
    rintro e w3 ⟨j1, rfl, hsk3, hj1, hj2, hr3, ho3⟩
    have hz3 := ho3.size
    obtain ⟨c0, c1, c2, f1, f2⟩ := id hr3
    have hbw3 : Below w.heap.size w w3 := hbw.trans (ho3.below (Nat.le_refl _) (by omega))
    have hm3 := HM.out.keep (w' := w3) (fun b h1 h2 => ho3.block b h2 (.inr (by omega)))
    by_cases hlj : j1 < s.size
    · have hdj := drop_at hlj
      obtain ⟨bj, hbj⟩ : ∃ bj, bj = s[j1]'hlj := ⟨_, rfl⟩
      have hs3 : skipL (s.data.toList.drop j) = bj :: s.data.toList.drop (j1 + 1) := by rw [hbj]; exact hsk3.symm.trans hdj
      have hrs : rd (s.data.toList.drop j1) = rd (s.data.toList.drop j) := rd_skip (by rw [hsk3, skipL_idem])
      clear hbj hdj
      have HR3 := Lib.hid hr3; clear hr3; have HO3 := Lib.hid ho3; clear ho3; have HSK3 := Lib.hid hsk3; clear hsk3; have HS3 := Lib.hid hs3; clear hs3; have HRS := Lib.hid hrs; clear hrs; have HM3 := Lib.hid hm3; clear hm3
      go_wp2_with fail
      refine (iDatum_calls w.heap.size (s.size - j1) w.heap.size s j1 cc _ HR3.out (by omega) (by omega) (Nat.le_refl _) (by omega) (Nat.le_refl _) (HT.out.on hbw3) (HE.out.on hbw3)).mono ?_
      rintro e w4 ⟨k2, n2, t2, ds2, sa2, cap2, ms2, p2, c2', rfl, hr4, ho4, hi4, hm4, hpost⟩
      rw [HRS.out]
      rw [HRS.out] at hpost
      have hz4 := ho4.size
      have hbw4 : Below w.heap.size w w4 := hbw3.trans (ho4.below (Nat.le_refl _) (by omega))
      cases hb : okC (rd (s.data.toList.drop j)) cc with
      | false =>
        have hpf : parseB s = none := parse_fail h15 HL.out hcc HS3.out hb
        clear hpost c0 c1 c2 f1 f2
        have HR4 := Lib.hid hr4; clear hr4; have HO4 := Lib.hid ho4; clear ho4; have HI4 := Lib.hid hi4; clear hi4; have HM4 := Lib.hid hm4; clear hm4; have HB := Lib.hid hb; clear hb; have HPF := Lib.hid hpf; clear hpf
        go_wp2_with fail
        go_ret2
        exact ⟨none, 0, [], by rw [HPF.out]; rfl, by rw [HPF.out]; rfl, M.Mine.nil _ _ _ _ (by decide), by (repeat (first | with_reducible assumption | with_reducible exact Below.refl _ _ | with_reducible refine Below.drew ?_ | with_reducible refine belowDrewN ?_ _ | ((with_reducible refine Below.setCell ?_ ?_ _); rotate_left; focus (first | omega | (simp; done) | (simp; omega))) | ((with_reducible refine Below.alloc ?_ ?_ _); rotate_left; focus (first | omega | (simp; done) | (simp; omega))) | ((with_reducible refine Below.trans ?_ (Below.mono hbw4 ?_)); rotate_left; focus (first | omega | (simp; done) | (simp; omega)))))⟩
      | true =>
        obtain ⟨hres4, hp1, hp2, hc2⟩ := hpost hb
        have hlt4 : j < p2 := by have := (rd_ok hres4).lt; rw [List.length_drop, List.length_drop] at this; omega
        have h6 : cc + (Dat.mk k2 n2 t2 ds2).count ≤ 600 := okC_true (hres4 ▸ hb)
        have hLn : rdA s.data.toList = preA (acc ++ [.mk k2 n2 t2 ds2]) (rdA (s.data.toList.drop p2)) := by rw [HL.out, rdA_step HS3.out hres4, preA_preA]
        have hcn : c2' = Dat.countL (acc ++ [.mk k2 n2 t2 ds2]) := by rw [hc2, hcc, Dat.countL_append]; simp only [Dat.countL]; omega
        have hiN : Dat.IsL 43 (acc ++ [.mk k2 n2 t2 ds2]) (ms ++ [(M.ag [.c (.int .i64 k2), .c (.int .i64 n2), .c (.string t2), .sl sa2 cap2 4 43 ms2])]) := HI.out.snoc ⟨_, _, _, rfl, hi4⟩
        have hmA := (Dat.mine (k := k2) (n := n2) (s := t2) hm4).below (w' := w4.alloc (.cells #[.int .i64 k2, .int .i64 n2, .string t2, .slice sa2 ms2.length cap2] 43)) (by (repeat (first | with_reducible assumption | with_reducible exact Below.refl _ _ | with_reducible refine Below.drew ?_ | with_reducible refine belowDrewN ?_ _ | ((with_reducible refine Below.setCell ?_ ?_ _); rotate_left; focus (first | omega | (simp; done) | (simp; omega))) | ((with_reducible refine Below.alloc ?_ ?_ _); rotate_left; focus (first | omega | (simp; done) | (simp; omega))))))
        have hkk : ∀ b, w.heap.size + 1 ≤ b → b < wr.heap.size → (w4.alloc (.cells #[.int .i64 k2, .int .i64 n2, .string t2, .slice sa2 ms2.length cap2] 43)).heap[b]? = wr.heap[b]? := fun b h1 h2 => by
          rw [heapNew _ _ _ (by omega)]
          exact (ho4.block b (by omega) (.inr (by omega))).trans (HO3.out.block b h2 (.inr (by omega)))
        have hcs : c2' ≤ 600 := by omega
        have hml : ms.length ≤ 600 := by have := HAL.out; omega
        have hr4w := hr4.lt
        clear hc2 hpost c0 c1 c2 f1 f2
        have HR4 := Lib.hid hr4; clear hr4; have HO4 := Lib.hid ho4; clear ho4; have HI4 := Lib.hid hi4; clear hi4; have HM4 := Lib.hid hm4; clear hm4; have HB := Lib.hid hb; clear hb; have HRES4 := Lib.hid hres4; clear hres4; have HLN := Lib.hid hLn; clear hLn; have HCN := Lib.hid hcn; clear hcn; have HIN := Lib.hid hiN; clear hiN; have HMA := Lib.hid hmA; clear hmA; have HKK := Lib.hid hkk; clear hkk; have H6 := Lib.hid h6; clear h6
        go_wp2_with (at_builtin; refine wpList_push3 (wr := wr) (w1 := w4.alloc (.cells #[.int .i64 k2, .int .i64 n2, .string t2, .slice sa2 ms2.length cap2] 43)) rfl _ _ 31 rfl 43 _ 4 56 Tryd.underlying31 infoDat rfl (by decide) (w.heap.size + 1) a' cap' ms rfl HM.out (by omega) (by simp; omega) HKK.out _ (M.ag [.c (.int .i64 k2), .c (.int .i64 n2), .c (.string t2), .sl sa2 cap2 4 43 ms2]) rfl rfl w3.heap.size HMA.out (by omega) (by simp [go_sem]) (by unfold maxLen; omega) (by omega) ?_)
        intro a5 cap5 w5 hm5 hb5 hz5 hk5
        (try simp only [World.size_alloc] at hz5)
        have hr5 := (HR4.out.below (B := w4.heap.size) (w' := w4.alloc (.cells #[.int .i64 k2, .int .i64 n2, .string t2, .slice sa2 ms2.length cap2] 43)) (by (repeat (first | with_reducible assumption | with_reducible exact Below.refl _ _ | with_reducible refine Below.drew ?_ | with_reducible refine belowDrewN ?_ _ | ((with_reducible refine Below.setCell ?_ ?_ _); rotate_left; focus (first | omega | (simp; done) | (simp; omega))) | ((with_reducible refine Below.alloc ?_ ?_ _); rotate_left; focus (first | omega | (simp; done) | (simp; omega)))))) hr4w).below hb5 (by omega)
        have hbw5 : Below w.heap.size w w5 := by (repeat (first | with_reducible assumption | with_reducible exact Below.refl _ _ | with_reducible refine Below.drew ?_ | with_reducible refine belowDrewN ?_ _ | ((with_reducible refine Below.setCell ?_ ?_ _); rotate_left; focus (first | omega | (simp; done) | (simp; omega))) | ((with_reducible refine Below.alloc ?_ ?_ _); rotate_left; focus (first | omega | (simp; done) | (simp; omega))) | ((with_reducible refine Below.trans ?_ (Below.mono hbw4 ?_)); rotate_left; focus (first | omega | (simp; done) | (simp; omega))) | ((with_reducible refine Below.trans ?_ (Below.mono hb5 ?_)); rotate_left; focus (first | omega | (simp; done) | (simp; omega)))))
        have hnl : (ms ++ [(M.ag [.c (.int .i64 k2), .c (.int .i64 n2), .c (.string t2), .sl sa2 cap2 4 43 ms2])]).length = ms.length + 1 := by simp
        have HM5 := Lib.hid hm5; clear hm5; have HB5 := Lib.hid hb5; clear hb5; have HK5 := Lib.hid hk5; clear hk5; have HR5 := Lib.hid hr5; clear hr5; have HNL := Lib.hid hnl; clear hnl
        go_wp2_with fail
        go_roundg (s.size - p2)
        case measure => omega
        case rel => exact ⟨p2, acc ++ [.mk k2 n2 t2 ds2], a5, cap5, _, c2', rfl, by rw [HNL.out], HIN.out, HM5.out, HLN.out, hp2, HCN.out, hcs, HR5.out, hbw5, by omega⟩
    · have hnil : skipL (s.data.toList.drop j) = [] := by rw [← hsk3]; exact drop_out (by omega)
      have hpe := parse_end h15 HL.out hnil
      have hwl : Dat.wfL acc := by
        have hrA : rdA s.data.toList = some acc := by rw [HL.out, rdA_end hnil]; simp [preA]
        have hsz2 : s.data.toList.length = s.size := rfl
        exact (rdA_ok _ s.data.toList (Nat.le_refl _) acc hrA).2 (by omega)
      clear hnil
      have HR3 := Lib.hid hr3; clear hr3; have HO3 := Lib.hid ho3; clear ho3; have HSK3 := Lib.hid hsk3; clear hsk3; have HM3 := Lib.hid hm3; clear hm3; have HPE := Lib.hid hpe; clear hpe; have HWL := Lib.hid hwl; clear hwl
      go_wp2_with fail
      refine (iAreData_calls acc a' cap' ms _ HWL.out (by omega) HI.out HM3.out.in_).mono ?_
      rintro e w6 ⟨rfl, hb6⟩
      have hm6 := HM3.out.below hb6
      have hbw6 : Below w.heap.size w w6 := hbw3.trans (hb6.mono (by omega))
      have HM6 := Lib.hid hm6; clear hm6
      cases hv : areB acc with
      | true =>
        go_wp2_with fail
        go_ret2
        exact ⟨a', cap', ms, by rw [HPE.out, hv]; rfl, by rw [HPE.out, hv]; exact HI.out, HM6.out.mono (by omega), hbw6⟩
      | false =>
        go_wp2_with fail
        go_ret2
        exact ⟨none, 0, [], by rw [HPE.out, hv]; rfl, by rw [HPE.out, hv]; rfl, M.Mine.nil _ _ _ _ (by decide), hbw6⟩
end Go.Proofs.YtigmgfinjapchaaDoor

/-
  Walks: data read, the reference's side. No condition.
-/
set_option linter.unusedVariables false
set_option linter.unusedSimpArgs false
set_option maxRecDepth 100000
namespace Go.Proofs.YtigmgfinjapchaaDoor
open Go.RowKit

theorem parse_some {s : ByteArray} {ds : List Dat} (h : parseB s = some ds) : areB ds = true := by
  unfold parseB at h
  split at h
  · cases h
  · split at h
    · cases h
    · split at h
      · cases h; assumption
      · cases h
theorem parse_count (s : ByteArray) : Dat.countL ((parseB s).getD []) ≤ 600 := by
  cases h : parseB s with
  | none => simp [Dat.countL]
  | some ds =>
    have h2 : AreP ds := by simpa [areB] using parse_some h
    exact h2.1
set_option maxHeartbeats 4000000 in
theorem sParseData_calls (s : ByteArray) (w : World) (hs : s.size ≤ 9223372036854775807) :
    Calls Tryd.prog 11 #[.string s] w (RetParse (parseB s) w) := by
  by_cases h15 : 15000 < s.size
  · rw [parse_big h15]
    have h15i : 15000 < (s.size : Int) := by omega
    go_enter Tryd.func11, Tryd.ntmps11
    go_wp2_with fail
    go_ret2
    exact ⟨none, 0, [], rfl, rfl, M.Mine.nil _ _ _ _ (by decide), by (repeat (first | with_reducible assumption | with_reducible exact Below.refl _ _ | with_reducible refine Below.drew ?_ | with_reducible refine belowDrewN ?_ _ | ((with_reducible refine Below.setCell ?_ ?_ _); rotate_left; focus (first | omega | (simp; done) | (simp; omega))) | ((with_reducible refine Below.alloc ?_ ?_ _); rotate_left; focus (first | omega | (simp; done) | (simp; omega)))))⟩
  have h15i : ¬ 15000 < (s.size : Int) := by omega
  have hr0 : RdAt w.heap.size s 0 (.bool false) ((w.alloc (.cells #[.string s, .int .i64 0, .bool false] 56)).alloc (.cells #[] 43)) := by constructor <;> simp [go_sem]
  have hm0 := M.Mine.new (w := w.alloc (.cells #[.string s, .int .i64 0, .bool false] 56)) (lo := w.heap.size + 1) (n := 0) (sz := 4) (e := 43) (cs := #[]) (xs := []) rfl (by simp) rfl (by decide) (fun x hx => by cases hx) (by decide) ⟨trivial, by simp [M.blocksL]⟩
  rw [World.size_alloc] at hm0
  have HR0 := Lib.hid hr0; clear hr0; have HM0 := Lib.hid hm0; clear hm0
  go_enter Tryd.func11, Tryd.ntmps11
  go_wp2_with fail
  refine (sSkip_calls w.heap.size s 0 _ _ HR0.out (by omega) (by omega)).mono ?_
  rintro e w1 ⟨p0, rfl, hsk0, hp00, hp01, hr1, ho1⟩
  have hz1 := ho1.size
  simp only [World.size_alloc] at hz1
  have hsi : skipL (s.data.toList.drop p0) = s.data.toList.drop p0 := by rw [hsk0, skipL_idem]
  have hL0 : rdA s.data.toList = preA [] (rdA (s.data.toList.drop p0)) := by rw [preA_nil]; exact rdA_skip (by rw [hsi, hsk0, List.drop_zero])
  have hm1 := HM0.out.keep (w' := w1) (fun b h1 h2 => ho1.block b h2 (.inr (by omega)))
  have hbw1 : Below w.heap.size w w1 := (show Below w.heap.size w ((w.alloc (.cells #[.string s, .int .i64 0, .bool false] 56)).alloc (.cells #[] 43)) by (repeat (first | with_reducible assumption | with_reducible exact Below.refl _ _ | with_reducible refine Below.drew ?_ | with_reducible refine belowDrewN ?_ _ | ((with_reducible refine Below.setCell ?_ ?_ _); rotate_left; focus (first | omega | (simp; done) | (simp; omega))) | ((with_reducible refine Below.alloc ?_ ?_ _); rotate_left; focus (first | omega | (simp; done) | (simp; omega)))))).trans (ho1.below (Nat.le_refl _) (by simp; omega))
  have HR1 := Lib.hid hr1; clear hr1; have HO1 := Lib.hid ho1; clear ho1; have HM1 := Lib.hid hm1; clear hm1; have HL0 := Lib.hid hL0; clear hL0; have HSI := Lib.hid hsi; clear hsi; have HSK0 := Lib.hid hsk0; clear hsk0
  go_wp2_with fail
  go_loopg [5] (2 * (s.size - p0) + 1) (fun k t wr => ∃ (j : Nat) (bad : Bool) (acc : List Dat) (a' : Option Addr) (cap' : Nat) (ms : List M), k = 2 * (s.size - j) + (if bad = true then 0 else 1) ∧ t = .slice a' ms.length cap' ∧ Dat.IsL 43 acc ms ∧ (M.sl a' cap' 4 43 ms).Mine wr (w.heap.size + 1) ∧
      (bad = false → rdA s.data.toList = preA acc (rdA (s.data.toList.drop j)) ∧ j ≤ s.size ∧ skipL (s.data.toList.drop j) = s.data.toList.drop j ∧ ms.length ≤ j) ∧ (bad = true → rdA s.data.toList = none) ∧ j ≤ 2 * s.size + 1 ∧
      RdAt w.heap.size s j (.bool bad) wr ∧ Below w.heap.size w wr ∧ w.heap.size + 1 ≤ wr.heap.size)
  case atStart => exact ⟨p0, false, [], some ⟨w.heap.size + 1, 0, none⟩, 0, [], rfl, rfl, rfl, HM1.out, fun _ => ⟨HL0.out, by omega, HSI.out, Nat.zero_le _⟩, fun h => (by cases h), by omega, HR1.out, hbw1, by omega⟩
  case round =>
    obtain ⟨j, bad, acc, a', cap', ms, rfl, rfl, hi, hm, hgood, hbad, hj2, hrj, hbw, hsz⟩ := hrel
    obtain ⟨c0, c1, c2, f1, f2⟩ := id hrj
    have hcapm := hm.in_.len
    cases bad with
    | true =>
      have hpn : parseB s = none := parse_bad h15 (hbad rfl)
      clear hgood hbad
      have HI := Lib.hid hi; clear hi; have HM := Lib.hid hm; clear hm; have HRJ := Lib.hid hrj; clear hrj; have HPN := Lib.hid hpn; clear hpn
      go_wp2_with fail
      go_quiet (fail)
      go_wp2_with fail
      go_ret2
      exact ⟨none, 0, [], by rw [HPN.out]; rfl, by rw [HPN.out]; rfl, M.Mine.nil _ _ _ _ (by decide), by (repeat (first | with_reducible assumption | with_reducible exact Below.refl _ _ | with_reducible refine Below.drew ?_ | with_reducible refine belowDrewN ?_ _ | ((with_reducible refine Below.setCell ?_ ?_ _); rotate_left; focus (first | omega | (simp; done) | (simp; omega))) | ((with_reducible refine Below.alloc ?_ ?_ _); rotate_left; focus (first | omega | (simp; done) | (simp; omega))) | ((with_reducible refine Below.trans ?_ (Below.mono hbw ?_)); rotate_left; focus (first | omega | (simp; done) | (simp; omega)))))⟩
    | false =>
      obtain ⟨hL, hjs, hsj, hmj⟩ := hgood rfl
      clear hgood hbad
      by_cases hlj : j < s.size
      · have hdj := drop_at hlj
        obtain ⟨bj, hbj⟩ : ∃ bj, bj = s[j]'hlj := ⟨_, rfl⟩
        have hsb : skipL (s.data.toList.drop j) = bj :: s.data.toList.drop (j + 1) := by rw [hbj]; exact hsj.trans hdj
        clear hbj hdj
        have HI := Lib.hid hi; clear hi; have HM := Lib.hid hm; clear hm; have HRJ := Lib.hid hrj; clear hrj; have HL := Lib.hid hL; clear hL; have HSJ := Lib.hid hsj; clear hsj; have HSB := Lib.hid hsb; clear hsb
        go_wp2_with fail
        go_quiet (fail)
        go_wp2_with fail
        refine (sRead_calls (s.size - j) w.heap.size s j _ (HRJ.out.drewN _) (by omega) (by omega) (Nat.le_refl _)).mono ?_
        rintro e w4 ⟨k2, n2, t2, ds2, sa2, cap2, ms2, p2, bad2, rfl, hi4, hm4, hr4, ho4, hp1, hp2, hgood, hbad⟩
        have hz4 := ho4.size
        simp only [sizeDrewN] at hz4 hm4
        have hbw4 : Below w.heap.size w w4 := ((belowDrewN hbw _).trans (ho4.below (Nat.le_refl _) (by rw [sizeDrewN]; omega)))
        have hiN : Dat.IsL 43 (acc ++ [.mk k2 n2 t2 ds2]) (ms ++ [(M.ag [.c (.int .i64 k2), .c (.int .i64 n2), .c (.string t2), .sl sa2 cap2 4 43 ms2])]) := HI.out.snoc ⟨_, _, _, rfl, hi4⟩
        have hkk : ∀ b, w.heap.size + 1 ≤ b → b < wr.heap.size → w4.heap[b]? = wr.heap[b]? := fun b h1 h2 => ho4.block b (by rw [sizeDrewN]; omega) (.inr (by omega))
        have hg2 : bad2 = false → rdA s.data.toList = preA (acc ++ [.mk k2 n2 t2 ds2]) (rdA (s.data.toList.drop p2)) ∧ p2 ≤ s.size ∧ j < p2 := fun h => by
          have hg := hgood h
          refine ⟨by rw [HL.out, rdA_step HSB.out hg.2, preA_preA], hg.1, ?_⟩
          have := (rd_ok hg.2).lt
          rw [List.length_drop, List.length_drop] at this
          omega
        have hb2 : bad2 = true → rdA s.data.toList = none := fun h => by rw [HL.out, rdA_bad HSB.out (hbad h)]; rfl
        have hr4w := hr4.lt
        clear hgood hbad c0 c1 c2 f1 f2
        have HR4 := Lib.hid hr4; clear hr4; have HO4 := Lib.hid ho4; clear ho4; have HI4 := Lib.hid hi4; clear hi4; have HM4 := Lib.hid hm4; clear hm4; have HIN := Lib.hid hiN; clear hiN; have HKK := Lib.hid hkk; clear hkk; have HG2 := Lib.hid hg2; clear hg2; have HB2 := Lib.hid hb2; clear hb2
        go_wp2_with (at_builtin; refine wpList_push3 (wr := wr) (w1 := w4) rfl _ _ 31 rfl 43 _ 4 56 Tryd.underlying31 infoDat rfl (by decide) (w.heap.size + 1) a' cap' ms rfl HM.out (by omega) (by omega) HKK.out _ (M.ag [.c (.int .i64 k2), .c (.int .i64 n2), .c (.string t2), .sl sa2 cap2 4 43 ms2]) rfl rfl wr.heap.size (Dat.mine HM4.out) (by omega) (by simp [go_sem]) (by unfold maxLen; omega) (by omega) ?_)
        intro a5 cap5 w5 hm5 hb5 hz5 hk5
        have hr5 := HR4.out.below hb5 (by omega)
        have hbw5 : Below w.heap.size w w5 := by (repeat (first | with_reducible assumption | with_reducible exact Below.refl _ _ | with_reducible refine Below.drew ?_ | with_reducible refine belowDrewN ?_ _ | ((with_reducible refine Below.setCell ?_ ?_ _); rotate_left; focus (first | omega | (simp; done) | (simp; omega))) | ((with_reducible refine Below.alloc ?_ ?_ _); rotate_left; focus (first | omega | (simp; done) | (simp; omega))) | ((with_reducible refine Below.trans ?_ (Below.mono hbw4 ?_)); rotate_left; focus (first | omega | (simp; done) | (simp; omega))) | ((with_reducible refine Below.trans ?_ (Below.mono hb5 ?_)); rotate_left; focus (first | omega | (simp; done) | (simp; omega)))))
        have hnl : (ms ++ [(M.ag [.c (.int .i64 k2), .c (.int .i64 n2), .c (.string t2), .sl sa2 cap2 4 43 ms2])]).length = ms.length + 1 := by simp
        have HM5 := Lib.hid hm5; clear hm5; have HB5 := Lib.hid hb5; clear hb5; have HK5 := Lib.hid hk5; clear hk5; have HR5 := Lib.hid hr5; clear hr5; have HNL := Lib.hid hnl; clear hnl
        go_wp2_with fail
        refine (sSkip_calls w.heap.size s p2 _ _ HR5.out (by omega) (by omega)).mono ?_
        rintro e w6 ⟨p6, rfl, hsk6, hp61, hp62, hr6, ho6⟩
        have hz6 := ho6.size
        have hm6 := HM5.out.keep (w' := w6) (fun b h1 h2 => ho6.block b h2 (.inr (by omega)))
        have hbw6 : Below w.heap.size w w6 := hbw5.trans (ho6.below (Nat.le_refl _) (by omega))
        have hsi6 : skipL (s.data.toList.drop p6) = s.data.toList.drop p6 := by rw [hsk6, skipL_idem]
        have hg6 : bad2 = false → rdA s.data.toList = preA (acc ++ [.mk k2 n2 t2 ds2]) (rdA (s.data.toList.drop p6)) ∧ p6 ≤ s.size ∧ skipL (s.data.toList.drop p6) = s.data.toList.drop p6 ∧ (ms ++ [(M.ag [.c (.int .i64 k2), .c (.int .i64 n2), .c (.string t2), .sl sa2 cap2 4 43 ms2])]).length ≤ p6 := fun h => by
          have hg := HG2.out h
          refine ⟨by rw [hg.1, rdA_skip (l := s.data.toList.drop p2) (m := s.data.toList.drop p6) (by rw [hsi6, hsk6])], by have := hg.2.1; omega, hsi6, by rw [HNL.out]; have := hg.2.2; omega⟩
        have HM6 := Lib.hid hm6; clear hm6; have HR6 := Lib.hid hr6; clear hr6; have HG6 := Lib.hid hg6; clear hg6; have HSK6 := Lib.hid hsk6; clear hsk6; have HSI6 := Lib.hid hsi6; clear hsi6; have HO6 := Lib.hid ho6; clear ho6
        go_wp2_with fail
        go_roundg (2 * (s.size - p6) + (if bad2 = true then 0 else 1))
        case measure =>
          cases bad2 with
          | true => simp; omega
          | false => have := (HG2.out rfl).2.2; simp; omega
        case rel => exact ⟨p6, bad2, acc ++ [.mk k2 n2 t2 ds2], a5, cap5, _, rfl, by rw [HNL.out], HIN.out, HM6.out, HG6.out, HB2.out, by omega, HR6.out, hbw6, by omega⟩
      · have hnil : skipL (s.data.toList.drop j) = [] := by rw [hsj, drop_out (by omega)]
        have hpe := parse_end h15 hL hnil
        have hall : rdA s.data.toList = some acc := by rw [hL, rdA_end hnil]; simp [preA]
        have hsz2 : s.data.toList.length = s.size := rfl
        have hrk := rdA_ok _ s.data.toList (Nat.le_refl _) acc hall
        have hwl : Dat.wfL acc := hrk.2 (by omega)
        have hct : Dat.countL acc ≤ 1000000000 := by have := hrk.1; omega
        clear hnil hall hrk
        have HI := Lib.hid hi; clear hi; have HM := Lib.hid hm; clear hm; have HRJ := Lib.hid hrj; clear hrj; have HL := Lib.hid hL; clear hL; have HSJ := Lib.hid hsj; clear hsj; have HPE := Lib.hid hpe; clear hpe; have HWL := Lib.hid hwl; clear hwl; have HCT := Lib.hid hct; clear hct
        go_wp2_with fail
        go_quiet (fail)
        go_wp2_with fail
        refine (sAreData_calls acc a' cap' ms _ HWL.out HCT.out HI.out (HM.out.in_.below (by (repeat (first | with_reducible assumption | with_reducible exact Below.refl _ _ | with_reducible refine Below.drew ?_ | with_reducible refine belowDrewN ?_ _ | ((with_reducible refine Below.setCell ?_ ?_ _); rotate_left; focus (first | omega | (simp; done) | (simp; omega))) | ((with_reducible refine Below.alloc ?_ ?_ _); rotate_left; focus (first | omega | (simp; done) | (simp; omega)))))))).mono ?_
        rintro e w6 ⟨rfl, hb6⟩
        have hm6 := (HM.out.keep (w' := wr.drewN _) (fun b h1 h2 => rfl)).below hb6
        have hbw6 : Below w.heap.size w w6 := (belowDrewN hbw _).trans (hb6.mono (by rw [sizeDrewN]; omega))
        have HM6 := Lib.hid hm6; clear hm6
        cases hv : areB acc with
        | true =>
          go_wp2_with fail
          go_ret2
          exact ⟨a', cap', ms, by rw [HPE.out, hv]; rfl, by rw [HPE.out, hv]; exact HI.out, HM6.out.mono (by omega), hbw6⟩
        | false =>
          go_wp2_with fail
          go_ret2
          exact ⟨none, 0, [], by rw [HPE.out, hv]; rfl, by rw [HPE.out, hv]; rfl, M.Mine.nil _ _ _ _ (by decide), hbw6⟩
end Go.Proofs.YtigmgfinjapchaaDoor

/-
  Walks: copies of data, ListDatum. No condition.
-/
set_option linter.unusedVariables false
set_option linter.unusedSimpArgs false
set_option maxRecDepth 100000
namespace Go.Proofs.YtigmgfinjapchaaDoor
open Go.RowKit

end Go.Proofs.YtigmgfinjapchaaDoor

/-
  Walks: the reference's copy of data, ListDatum. No condition.
-/
set_option linter.unusedVariables false
set_option linter.unusedSimpArgs false
set_option maxRecDepth 100000
namespace Go.Proofs.YtigmgfinjapchaaDoor
open Go.RowKit

end Go.Proofs.YtigmgfinjapchaaDoor
