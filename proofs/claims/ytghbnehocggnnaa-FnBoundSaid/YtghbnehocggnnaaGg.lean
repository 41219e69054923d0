/-
  Texts set together by wip/tools/merge.py: MX7, B10, RB1, G5, RB2, RB3. No condition beyond those told with each.
-/
import Derived.Test.YtghbnehocggnnaaGf
/-
  Walks: a table of bindings drawn; what the laws draw of bindings. No condition. (printed by wip/tools/mkmx7.py)
-/
set_option linter.unusedVariables false
set_option linter.unusedSimpArgs false
set_option maxRecDepth 100000
namespace Go.Proofs.Ytghbnehocggnnaa
open Go.RowKit

theorem wpList_push4 {P : Program} {wr w1 : World} {ops : Array Oper} {rest : List Oper} {o : Oper} {act : Act} {Q : Exit → Act → World → Prop} (hgd : o.guard = none) (s x : Operand) (t : TypeId)
    (ho : o.op = .call { callee := .builtin .append, args := #[s, x], argTypes := #[t, t] })
    (e : TypeId) (z : Value) (size bytes : Nat) (ht : P.underlying t = some (.slice e)) (hinfo : (P.info? e).map (fun i => (i.zero, i.size, i.bytes)) = some (some z, size, bytes))
    (hzs : z.cells.size = size) (hsz : 0 < size)
    (lo : Nat) (a : Option Addr) (cap : Nat) (xs : List M) (hs : act.eval s = .slice a xs.length cap) (hrow : (M.sl a cap size e xs).Mine wr lo) (hlo : lo ≤ wr.heap.size) (hsz1 : wr.heap.size ≤ w1.heap.size) (hk : ∀ b, lo ≤ b → b < wr.heap.size → w1.heap[b]? = wr.heap[b]?)
    (cs : Array Value) (m : M) (hmc : m.cells = cs.toList) (hml : cs.size = size) (c : Nat) (hm : m.Mine w1 c) (hc : wr.heap.size ≤ c)
    (hx : act.eval x = .slice (some ⟨w1.heap.size, 0, none⟩) 1 1) (h63 : xs.length + 1 ≤ maxLen) (hbytes : (xs.length + 1) * bytes ≤ 140737488355328)
    (h : ∀ a' cap' w', (M.sl a' cap' size e (xs ++ [m])).Mine w' lo → Below lo w1 w' → w1.heap.size ≤ w'.heap.size → (∀ b, b < w1.heap.size → b ∉ addrBlocks a → w'.heap[b]? = w1.heap[b]?) →
      wpList P ops Q rest (act.put o.dst (.slice a' (xs.length + 1) cap')) w') : wpList P ops Q (o :: rest) act (w1.alloc (.cells cs e)) := by
  have hrw : (M.sl a cap size e xs).Mine (w1.alloc (.cells cs e)) lo := by
    refine M.Mine.keep hrow fun b h1 h2 => ?_
    rw [heapNew _ _ _ (by omega), hk b h1 h2]
  have hmw : m.Mine (w1.alloc (.cells cs e)) lo := by
    refine M.Mine.mono (M.Mine.keep hm fun b h1 h2 => ?_) (by omega)
    rw [heapNew _ _ _ h2]
  have hlen : m.cells.length = size := by rw [hmc]; simpa using hml
  refine wpList_row _ hgd s x t ho e z size bytes ht hinfo hzs hsz lo a xs.length cap (M.cellsL xs) hs hrw.own.1.1 _ 1 1 m.cells hx (by omega) (by simp) ?_ ?_ h63 hbytes (by simp; omega) ?_
  · intro ad had j u hu
    obtain rfl := Option.some.inj had
    rw [addr_add, Nat.zero_add, World.cell?_alloc_new]
    rw [hmc] at hu
    simpa using hu
  · exact M.Own.one m hmw.own
  · intro a' cap' w' hr hg ha
    have hY : M.MineL (w1.alloc (.cells cs e)) lo [m] := ⟨⟨hmw.own, trivial⟩, by simpa [M.blocksL] using hmw.dup⟩
    have hp := M.Mine.push (ys := [m]) hrw (by simpa [M.cellsL] using hr) hg ha hY (by simpa using hlen) (fun b hb' => by
      have h1 := hm.lt b (by simpa [M.blocksL] using hb')
      have h2 : ∀ b' ∈ (M.sl a cap size e xs).blocks, b' < wr.heap.size := fun b' hb' => (hrow.lt b' hb').2
      exact ⟨fun hn => by have := h2 b (by simp [M.blocks, hn]); omega, fun hn => by have := h2 b (by simp [M.blocks, hn]); omega⟩)
    have hkeep : ∀ b, b < w1.heap.size → b ∉ addrBlocks a → w'.heap[b]? = w1.heap[b]? := fun b hb1 hn => by
      rw [hg.block b (by simp; omega) (fun he => hn (addrBlocks_own.1 he.symm)), heapNew _ _ _ hb1]
    have hgs := hg.size
    refine h a' cap' w' hp ?_ ?_ hkeep
    · have := grownBy_below (lo := lo) hg (B := lo) (by simp; omega) fun b hb => (Mine.addr_lo hrow b hb).1
      exact ⟨this.os, this.tape, this.output, by simp at hgs; omega, fun k hk => by rw [this.block k hk, heapNew _ _ _ (by omega)]⟩
    · simp at hgs; omega

/-- a table of bindings drawn -/
def DrawnTb (pb : Nat) (a : Option Addr) (cap : Nat) (l : List Int) (w : World) (e : Ending) (w' : World) : Prop :=
  ∃ (ds : List Bnd) (a' : Option Addr) (cap' : Nat) (ms : List M), e = .returned (.slice a' ms.length cap') ∧ ms.length ≤ 8 ∧ Bnd.IsL ds ms ∧ (M.sl a' cap' 4 33 ms).Mine w' w.heap.size ∧ (∀ d ∈ ds, Bnd.wf1 d) ∧ Cur pb a cap l w' ∧ OnlyIn pb (pb + 1) w w'
set_option maxHeartbeats 8000000 in
theorem l3Table_calls (pb : Nat) (a : Option Addr) (cap : Nat) (l : List Int) (w : World) (hc : Cur pb a cap l w) :
    Calls Try.prog 48 #[.pointer (some ⟨pb, 0, none⟩)] w (DrawnTb pb a cap l w) := by
  have hpl := hc.lt
  have hm1 := M.Mine.new (w := w) (lo := w.heap.size) (n := 0) (sz := 4) (e := 33) (cs := #[]) (xs := []) rfl (Nat.le_refl _) rfl (by decide) (fun x hx => by cases hx) (by decide) ⟨trivial, by simp [M.blocksL]⟩
  have HC := Lib.hid hc; clear hc; have HM1 := Lib.hid hm1; clear hm1
  go_enter Try.func48, Try.ntmps48
  go_wp2_with fail
  refine (l01Below_calls 9 pb a cap l _ (HC.out.below (by (repeat (first | with_reducible assumption | with_reducible exact Below.refl _ _ | with_reducible refine Below.drew ?_ | with_reducible refine belowDrewN ?_ _ | ((with_reducible refine Below.setCell ?_ ?_ _); rotate_left; focus (first | omega | (simp; done) | (simp; omega))) | ((with_reducible refine Below.alloc ?_ ?_ _); rotate_left; focus (first | omega | (simp; done) | (simp; omega))))))) (by decide) (by decide)).mono ?_
  rintro e w1 ⟨y, rfl, hy0, hy1, hc1, ho1⟩
  obtain ⟨n1, rfl⟩ := Int.eq_ofNat_of_zero_le hy0
  have hn1 : n1 ≤ 8 := by omega
  have hz1 := ho1.size
  simp only [World.size_alloc] at hz1
  have hm2 := HM1.out.keep (w' := w1) (fun b h1 h2 => ho1.block b h2 (.inr (by omega)))
  have hoo : OnlyIn pb (pb + 1) w w1 := ((OnlyIn.refl _ _ _).new _).trans ho1
  clear hy0 hy1 ho1
  have HC1 := Lib.hid hc1; clear hc1; have HM2 := Lib.hid hm2; clear hm2; have HOO := Lib.hid hoo; clear hoo
  go_wp2_with fail
  go_loopw [3, 4] (fun t i wr => ∃ (n : Nat) (ds : List Bnd) (a' : Option Addr) (cap' : Nat) (ms : List M), t = .slice a' ms.length cap' ∧ i = .int .i64 n ∧ ms.length + n ≤ 8 ∧ Bnd.IsL ds ms ∧ (M.sl a' cap' 4 33 ms).Mine wr w.heap.size ∧ (∀ d ∈ ds, Bnd.wf1 d) ∧ Cur pb a cap l wr ∧ OnlyIn pb (pb + 1) w wr ∧ w.heap.size ≤ wr.heap.size) (fun _ i _ => (intOf i).toNat)
  case atStart => exact ⟨n1, [], _, _, [], rfl, rfl, by simpa using hn1, rfl, HM2.out, (fun d hd => by cases hd), HC1.out, HOO.out, by omega⟩
  case round =>
    obtain ⟨n, ds, a', cap', ms, rfl, rfl, hnm, hi, hm, hwl, hcr, hor, hsz⟩ := hrel
    cases n with
    | zero =>
      have HI := Lib.hid hi; clear hi; have HM := Lib.hid hm; clear hm; have HWL := Lib.hid hwl; clear hwl; have HCR := Lib.hid hcr; clear hcr; have HOR := Lib.hid hor; clear hor
      go_wp2_with fail
      go_ret
      exact ⟨ds, a', cap', ms, rfl, by omega, HI.out, HM.out, HWL.out, HCR.out, HOR.out⟩
    | succ n =>
      have hpos : 0 < ((n + 1 : Nat) : Int) := by omega
      have hcapm := hm.in_.len
      have HI := Lib.hid hi; clear hi; have HM := Lib.hid hm; clear hm; have HWL := Lib.hid hwl; clear hwl; have HCR := Lib.hid hcr; clear hcr; have HOR := Lib.hid hor; clear hor; have HNM := Lib.hid hnm; clear hnm
      go_wp2_with fail
      refine (l3Draw_calls pb a cap l _ HCR.out).mono ?_
      rintro e w2 ⟨s, x, k, n0, xa, xc, rfl, hmB, hwB, hc2, ho2⟩
      have hz2 := ho2.size
      have hxl := Ints.len hmB.in_
      have hsz9 : s.size ≤ 9223372036854775807 := Nat.le_trans hwB.1 (by decide)
      have HMB := Lib.hid hmB; clear hmB; have HWB := Lib.hid hwB; clear hwB; have HC2 := Lib.hid hc2; clear hc2; have HO2 := Lib.hid ho2; clear ho2
      go_wp2_with fail
      refine (sIsBinding_calls s x k n0 xa xc _ hsz9 (HMB.out.in_.below (by (repeat (first | with_reducible assumption | with_reducible exact Below.refl _ _ | with_reducible refine Below.drew ?_ | with_reducible refine belowDrewN ?_ _ | ((with_reducible refine Below.setCell ?_ ?_ _); rotate_left; focus (first | omega | (simp; done) | (simp; omega))) | ((with_reducible refine Below.alloc ?_ ?_ _); rotate_left; focus (first | omega | (simp; done) | (simp; omega)))))))).mono ?_
      rintro e w3 ⟨rfl, hb3⟩
      have hz3 := hb3.size
      simp only [World.size_alloc] at hz3
      have hq3 : BBox w2.heap.size s (.slice xa x.length xc) k n0 w3 := (BBox.new s (.slice xa x.length xc) k n0 w2).below hb3 (by simp)
      have hb23 : Below w2.heap.size w2 w3 := by (repeat (first | with_reducible assumption | with_reducible exact Below.refl _ _ | with_reducible refine Below.drew ?_ | with_reducible refine belowDrewN ?_ _ | ((with_reducible refine Below.setCell ?_ ?_ _); rotate_left; focus (first | omega | (simp; done) | (simp; omega))) | ((with_reducible refine Below.alloc ?_ ?_ _); rotate_left; focus (first | omega | (simp; done) | (simp; omega))) | ((with_reducible refine Below.trans ?_ (Below.mono hb3 ?_)); rotate_left; focus (first | omega | (simp; done) | (simp; omega)))))
      have ho23 : OnlyIn pb (pb + 1) w2 w3 := OnlyIn.of_below hb23
      have hc3 := HC2.out.below hb23
      clear hb3 hb23
      have HQ3 := Lib.hid hq3; clear hq3; have HO23 := Lib.hid ho23; clear ho23; have HC3 := Lib.hid hc3; clear hc3
      cases hbk : bndOk s x k n0 with
      | false =>
        obtain ⟨q0, q1, q2, q3, f0, f1, f2, f3⟩ := HQ3.out
        go_wp2_with fail
        clear q0 q1 q2 q3 f0 f1 f2 f3
        refine (l01Once_calls 20 pb a cap l _ HC3.out (by decide) (by decide)).mono ?_
        rintro e w5 ⟨bb, rfl, hc5, ho5⟩
        have hz5 := ho5.size
        have ho25 := HO23.out.trans ho5
        have hq5 := HQ3.out.only ho5 (.inr (by omega))
        clear ho5
        have HC5 := Lib.hid hc5; clear hc5; have HO25 := Lib.hid ho25; clear ho25; have HQ5 := Lib.hid hq5; clear hq5
        cases bb with
        | true =>
          have hkk : ∀ b, w.heap.size ≤ b → b < wr.heap.size → w5.heap[b]? = wr.heap[b]? := fun b h1 h2 => (HO2.out.trans HO25.out).block b h2 (.inr (by omega))
          have hmk : (M.sl xa xc 1 3 (intM x)).Mine w5 wr.heap.size := HMB.out.keep (fun b h1 h2 => HO25.out.block b h2 (.inr (by omega)))
          obtain ⟨q0, q1, q2, q3, f0, f1, f2, f3⟩ := HQ5.out
          have HKK := Lib.hid hkk; clear hkk; have HMK := Lib.hid hmk; clear hmk
          go_wp2_with (at_builtin; refine wpList_push4 (wr := wr) (w1 := w5) rfl _ _ 23 rfl 33 _ 4 56 Try.underlying23 infoBnd rfl (by decide) w.heap.size a' cap' ms rfl HM.out (by omega) (by omega) HKK.out _ (bndM s xa xc x k n0) (bndM_cells _ _ _ _ _ _) rfl wr.heap.size (bndM_mine HMK.out s k n0) (Nat.le_refl _) (by simp [go_sem]) (by have := HNM.out; unfold maxLen; omega) (by have := HNM.out; omega) ?_)
          intro a5 cap5 w9 hm9 hb9 hz9 hk9
          have hc9 := HC5.out.belowB hb9 (by omega)
          have ho9 : OnlyIn pb (pb + 1) w w9 := ((HOR.out.trans HO2.out).trans HO25.out).thenBelow hb9
          have hi9 : Bnd.IsL (ds ++ [.mk s x k n0]) (ms ++ [bndM s xa xc x k n0]) := HI.out.snoc ⟨_, _, rfl⟩
          have hnl : (ms ++ [bndM s xa xc x k n0]).length = ms.length + 1 := by simp
          have hwl9 : ∀ d ∈ ds ++ [.mk s x k n0], Bnd.wf1 d := fun d hd => by
            rcases List.mem_append.1 hd with h1 | h1
            · exact HWL.out d h1
            · simp at h1; subst h1; exact HWB.out
          have hn8 : n ≤ 8 := by have := HNM.out; omega
          clear hk9 hb9 q0 q1 q2 q3 f0 f1 f2 f3
          have HM9 := Lib.hid hm9; clear hm9; have HC9 := Lib.hid hc9; clear hc9; have HO9 := Lib.hid ho9; clear ho9; have HI9 := Lib.hid hi9; clear hi9; have HNL := Lib.hid hnl; clear hnl; have HWL9 := Lib.hid hwl9; clear hwl9
          go_wp2_with fail
          go_roundw
          case rel => exact ⟨n, _, a5, cap5, _, by rw [HNL.out], by go_num, by rw [HNL.out]; have := HNM.out; omega, HI9.out, HM9.out, HWL9.out, HC9.out, HO9.out, by omega⟩
          case measure => first | (simp [intOf]; done) | (simp [intOf]; omega)
        | false =>
          have hm9 : (M.sl a' cap' 4 33 ms).Mine w5 w.heap.size := HM.out.keep (fun b h1 h2 => (HO2.out.trans HO25.out).block b h2 (.inr (by omega)))
          have ho9 : OnlyIn pb (pb + 1) w w5 := (HOR.out.trans HO2.out).trans HO25.out
          have hn8 : n ≤ 8 := by have := HNM.out; omega
          have HM9 := Lib.hid hm9; clear hm9; have HO9 := Lib.hid ho9; clear ho9
          go_wp2_with fail
          go_roundw
          case rel => exact ⟨n, ds, a', cap', ms, rfl, by go_num, by have := HNM.out; omega, HI.out, HM9.out, HWL.out, HC5.out, HO9.out, by omega⟩
          case measure => first | (simp [intOf]; done) | (simp [intOf]; omega)
      | true =>
        obtain ⟨q0, q1, q2, q3, f0, f1, f2, f3⟩ := HQ3.out
        have hmr : (M.sl a' cap' 4 33 ms).In w3 := (HM.out.keep (w' := w3) (fun b h1 h2 => (HO2.out.trans HO23.out).block b h2 (.inr (by omega)))).in_
        have hmx : (M.sl xa xc 1 3 (intM x)).In w3 := (HMB.out.keep (w' := w3) (fun b h1 h2 => HO23.out.block b h2 (.inr (by omega)))).in_
        have HBK := Lib.hid hbk; clear hbk; have HMR := Lib.hid hmr; clear hmr; have HMX := Lib.hid hmx; clear hmx
        go_wp2_with fail
        clear q0 q1 q2 q3 f0 f1 f2 f3
        refine (l3Clash_calls ds a' cap' ms s x k n0 xa xc _ HI.out HMR.out HMX.out).mono ?_
        rintro e w4 ⟨rfl, hb4⟩
        have hz4 := hb4.size
        have hq4 := HQ3.out.below hb4 (by omega)
        have ho24 : OnlyIn pb (pb + 1) w2 w4 := HO23.out.trans (OnlyIn.of_below hb4)
        have hc4 := HC3.out.below hb4
        clear hb4
        have HQ4 := Lib.hid hq4; clear hq4; have HO24 := Lib.hid ho24; clear ho24; have HC4 := Lib.hid hc4; clear hc4
        cases hcl : clashB ds s x with
        | false =>
          have HCL := Lib.hid hcl; clear hcl
          have hkk : ∀ b, w.heap.size ≤ b → b < wr.heap.size → w4.heap[b]? = wr.heap[b]? := fun b h1 h2 => (HO2.out.trans HO24.out).block b h2 (.inr (by omega))
          have hmk : (M.sl xa xc 1 3 (intM x)).Mine w4 wr.heap.size := HMB.out.keep (fun b h1 h2 => HO24.out.block b h2 (.inr (by omega)))
          obtain ⟨q0, q1, q2, q3, f0, f1, f2, f3⟩ := HQ4.out
          have HKK := Lib.hid hkk; clear hkk; have HMK := Lib.hid hmk; clear hmk
          go_wp2_with (at_builtin; refine wpList_push4 (wr := wr) (w1 := w4) rfl _ _ 23 rfl 33 _ 4 56 Try.underlying23 infoBnd rfl (by decide) w.heap.size a' cap' ms rfl HM.out (by omega) (by omega) HKK.out _ (bndM s xa xc x k n0) (bndM_cells _ _ _ _ _ _) rfl wr.heap.size (bndM_mine HMK.out s k n0) (Nat.le_refl _) (by simp [go_sem]) (by have := HNM.out; unfold maxLen; omega) (by have := HNM.out; omega) ?_)
          intro a5 cap5 w9 hm9 hb9 hz9 hk9
          have hc9 := HC4.out.belowB hb9 (by omega)
          have ho9 : OnlyIn pb (pb + 1) w w9 := ((HOR.out.trans HO2.out).trans HO24.out).thenBelow hb9
          have hi9 : Bnd.IsL (ds ++ [.mk s x k n0]) (ms ++ [bndM s xa xc x k n0]) := HI.out.snoc ⟨_, _, rfl⟩
          have hnl : (ms ++ [bndM s xa xc x k n0]).length = ms.length + 1 := by simp
          have hwl9 : ∀ d ∈ ds ++ [.mk s x k n0], Bnd.wf1 d := fun d hd => by
            rcases List.mem_append.1 hd with h1 | h1
            · exact HWL.out d h1
            · simp at h1; subst h1; exact HWB.out
          have hn8 : n ≤ 8 := by have := HNM.out; omega
          clear hk9 hb9 q0 q1 q2 q3 f0 f1 f2 f3
          have HM9 := Lib.hid hm9; clear hm9; have HC9 := Lib.hid hc9; clear hc9; have HO9 := Lib.hid ho9; clear ho9; have HI9 := Lib.hid hi9; clear hi9; have HNL := Lib.hid hnl; clear hnl; have HWL9 := Lib.hid hwl9; clear hwl9
          go_wp2_with fail
          go_roundw
          case rel => exact ⟨n, _, a5, cap5, _, by rw [HNL.out], by go_num, by rw [HNL.out]; have := HNM.out; omega, HI9.out, HM9.out, HWL9.out, HC9.out, HO9.out, by omega⟩
          case measure => first | (simp [intOf]; done) | (simp [intOf]; omega)
        | true =>
          have HCL := Lib.hid hcl; clear hcl
          obtain ⟨q0, q1, q2, q3, f0, f1, f2, f3⟩ := HQ4.out
          go_wp2_with fail
          clear q0 q1 q2 q3 f0 f1 f2 f3
          refine (l01Once_calls 20 pb a cap l _ HC4.out (by decide) (by decide)).mono ?_
          rintro e w5 ⟨bb, rfl, hc5, ho5⟩
          have hz5 := ho5.size
          have ho25 := HO24.out.trans ho5
          have hq5 := HQ4.out.only ho5 (.inr (by omega))
          clear ho5
          have HC5 := Lib.hid hc5; clear hc5; have HO25 := Lib.hid ho25; clear ho25; have HQ5 := Lib.hid hq5; clear hq5
          cases bb with
          | true =>
            have hkk : ∀ b, w.heap.size ≤ b → b < wr.heap.size → w5.heap[b]? = wr.heap[b]? := fun b h1 h2 => (HO2.out.trans HO25.out).block b h2 (.inr (by omega))
            have hmk : (M.sl xa xc 1 3 (intM x)).Mine w5 wr.heap.size := HMB.out.keep (fun b h1 h2 => HO25.out.block b h2 (.inr (by omega)))
            obtain ⟨q0, q1, q2, q3, f0, f1, f2, f3⟩ := HQ5.out
            have HKK := Lib.hid hkk; clear hkk; have HMK := Lib.hid hmk; clear hmk
            go_wp2_with (at_builtin; refine wpList_push4 (wr := wr) (w1 := w5) rfl _ _ 23 rfl 33 _ 4 56 Try.underlying23 infoBnd rfl (by decide) w.heap.size a' cap' ms rfl HM.out (by omega) (by omega) HKK.out _ (bndM s xa xc x k n0) (bndM_cells _ _ _ _ _ _) rfl wr.heap.size (bndM_mine HMK.out s k n0) (Nat.le_refl _) (by simp [go_sem]) (by have := HNM.out; unfold maxLen; omega) (by have := HNM.out; omega) ?_)
            intro a5 cap5 w9 hm9 hb9 hz9 hk9
            have hc9 := HC5.out.belowB hb9 (by omega)
            have ho9 : OnlyIn pb (pb + 1) w w9 := ((HOR.out.trans HO2.out).trans HO25.out).thenBelow hb9
            have hi9 : Bnd.IsL (ds ++ [.mk s x k n0]) (ms ++ [bndM s xa xc x k n0]) := HI.out.snoc ⟨_, _, rfl⟩
            have hnl : (ms ++ [bndM s xa xc x k n0]).length = ms.length + 1 := by simp
            have hwl9 : ∀ d ∈ ds ++ [.mk s x k n0], Bnd.wf1 d := fun d hd => by
              rcases List.mem_append.1 hd with h1 | h1
              · exact HWL.out d h1
              · simp at h1; subst h1; exact HWB.out
            have hn8 : n ≤ 8 := by have := HNM.out; omega
            clear hk9 hb9 q0 q1 q2 q3 f0 f1 f2 f3
            have HM9 := Lib.hid hm9; clear hm9; have HC9 := Lib.hid hc9; clear hc9; have HO9 := Lib.hid ho9; clear ho9; have HI9 := Lib.hid hi9; clear hi9; have HNL := Lib.hid hnl; clear hnl; have HWL9 := Lib.hid hwl9; clear hwl9
            go_wp2_with fail
            go_roundw
            case rel => exact ⟨n, _, a5, cap5, _, by rw [HNL.out], by go_num, by rw [HNL.out]; have := HNM.out; omega, HI9.out, HM9.out, HWL9.out, HC9.out, HO9.out, by omega⟩
            case measure => first | (simp [intOf]; done) | (simp [intOf]; omega)
          | false =>
            have hm9 : (M.sl a' cap' 4 33 ms).Mine w5 w.heap.size := HM.out.keep (fun b h1 h2 => (HO2.out.trans HO25.out).block b h2 (.inr (by omega)))
            have ho9 : OnlyIn pb (pb + 1) w w5 := (HOR.out.trans HO2.out).trans HO25.out
            have hn8 : n ≤ 8 := by have := HNM.out; omega
            have HM9 := Lib.hid hm9; clear hm9; have HO9 := Lib.hid ho9; clear ho9
            go_wp2_with fail
            go_roundw
            case rel => exact ⟨n, ds, a', cap', ms, rfl, by go_num, by have := HNM.out; omega, HI.out, HM9.out, HWL.out, HC5.out, HO9.out, by omega⟩
            case measure => first | (simp [intOf]; done) | (simp [intOf]; omega)
/-- what DrawCandidates and DrawResolve hand back -/
def RetTI (w : World) (e : Ending) (w' : World) : Prop :=
  ∃ (bs : List Bnd) (ba : Option Addr) (bc : Nat) (bms : List M) (k n : Int) (s : ByteArray) (x : List Int) (ds : List Syn) (xa : Option Addr) (xc : Nat) (a' : Option Addr) (cap' : Nat) (ms : List M),
    e = .returned (.tuple #[.slice ba bms.length bc, .agg #[.int .i64 k, .int .i64 n, .string s, .slice xa x.length xc, .slice a' ms.length cap']]) ∧ bms.length ≤ 8 ∧ Bnd.IsL bs bms ∧ (M.sl ba bc 4 33 bms).Mine w' w.heap.size ∧ (∀ d ∈ bs, Bnd.wf1 d) ∧
    Syn.IsL 27 ds ms ∧ (SynOwn 27 xa xc x a' cap' ms).Mine w' w.heap.size ∧ (Syn.mk k n s x ds).wf3 ∧ 1 + Syn.countL ds ≤ 400 ∧ Below w.heap.size w w'
set_option maxHeartbeats 4000000 in
theorem drawCandidates_calls (a : Option Addr) (cap : Nat) (l : List Int) (w : World) (hin : (M.sl a cap 1 5 (u8M l)).In w) (hu : ∀ z ∈ l, 0 ≤ z ∧ z ≤ 255) (hlen : l.length ≤ 1048576) :
    Calls Try.prog 36 #[.slice a l.length cap] w (RetTI w) := by
  have HIN := Lib.hid hin; clear hin; have HU := Lib.hid hu; clear hu
  go_enter Try.func36, Try.ntmps36
  go_wp2_with fail
  refine (l01New_calls a cap l _ (HIN.out.below (by (repeat (first | with_reducible assumption | with_reducible exact Below.refl _ _ | with_reducible refine Below.drew ?_ | with_reducible refine belowDrewN ?_ _ | ((with_reducible refine Below.setCell ?_ ?_ _); rotate_left; focus (first | omega | (simp; done) | (simp; omega))) | ((with_reducible refine Below.alloc ?_ ?_ _); rotate_left; focus (first | omega | (simp; done) | (simp; omega))))))) HU.out hlen).mono ?_
  rintro e w1 ⟨pb, rfl, hpb, hc1, hb1⟩
  have hz1 := hb1.size
  simp only [World.size_alloc] at hz1 hpb
  have hp1 := hc1.lt
  have hr1 : SBox w.heap.size 0 0 ⟨#[]⟩ (.slice none 0 0) (.slice none 0 0) w1 := (SBox.new 0 0 ⟨#[]⟩ (.slice none 0 0) (.slice none 0 0) w).below hb1 (by simp)
  have hbw1 : Below w.heap.size w w1 := by (repeat (first | with_reducible assumption | with_reducible exact Below.refl _ _ | with_reducible refine Below.drew ?_ | with_reducible refine belowDrewN ?_ _ | ((with_reducible refine Below.setCell ?_ ?_ _); rotate_left; focus (first | omega | (simp; done) | (simp; omega))) | ((with_reducible refine Below.alloc ?_ ?_ _); rotate_left; focus (first | omega | (simp; done) | (simp; omega))) | ((with_reducible refine Below.trans ?_ (Below.mono hb1 ?_)); rotate_left; focus (first | omega | (simp; done) | (simp; omega)))))
  clear hb1
  have HC1 := Lib.hid hc1; clear hc1; have HR1 := Lib.hid hr1; clear hr1; have HBW1 := Lib.hid hbw1; clear hbw1
  go_wp2_with fail
  refine (l3Table_calls pb a cap l _ HC1.out).mono ?_
  rintro e w2 ⟨bs, ba, bc, bms, rfl, hbl, hbi, hbm, hbwf, hc2, ho2⟩
  have hz2 := ho2.size
  have hbc := hbm.in_.len
  have HBI := Lib.hid hbi; clear hbi; have HBM := Lib.hid hbm; clear hbm; have HBWF := Lib.hid hbwf; clear hbwf; have HC2 := Lib.hid hc2; clear hc2; have HO2 := Lib.hid ho2; clear ho2
  go_wp2_with fail
  refine (l3Id_calls pb a cap l _ HC2.out).mono ?_
  rintro e w3 ⟨k, n, s, x, ds, xa, xc, a3, c3, ms3, rfl, hi3, hm3, hw3, hct3, hc3, ho3⟩
  have hz3 := ho3.size
  obtain ⟨r0, r1, r2, r3, r4, g0, g1, g2, g3, g4⟩ := (HR1.out.only HO2.out (.inl (by omega))).only ho3 (.inl (by omega))
  have hret : RetTI w (.returned (.tuple #[.slice ba bms.length bc, .agg #[.int .i64 k, .int .i64 n, .string s, .slice xa x.length xc, .slice a3 ms3.length c3]])) (setCells w3 w.heap.size 0 [.int .i64 k, .int .i64 n, .string s, .slice xa x.length xc, .slice a3 ms3.length c3]) := by
    have ho4 := setCells_Only w.heap.size (bs := [w.heap.size]) (by simp) [.int .i64 k, .int .i64 n, .string s, .slice xa x.length xc, .slice a3 ms3.length c3] w3 0 (Only.refl _ w3)
    have hbm3 := HBM.out.keep (w' := w3) (fun b h1 h2 => ho3.block b h2 (.inr (by omega)))
    exact ⟨bs, ba, bc, bms, k, n, s, x, ds, xa, xc, a3, c3, ms3, rfl, hbl, HBI.out, M.Mine.mono (hbm3.only ho4 fun b hb hn => by have := (hbm3.lt b hb).1; simp at hn; omega) (by omega), HBWF.out,
      hi3, M.Mine.mono (hm3.only ho4 fun b hb hn => by have := (hm3.lt b hb).1; simp at hn; omega) (by omega), hw3, hct3, ((HBW1.out.trans (HO2.out.below (by omega) (by omega))).trans (ho3.below (by omega) (by omega))).trans (ho4.below (by omega) (by simp))⟩
  simp only [setCells, Nat.zero_add, Nat.reduceAdd] at hret
  clear hi3 hm3 hw3 hct3 hc3 ho3
  have HRET := Lib.hid hret; clear hret
  go_wp2_with fail
  refine bodyPost_ret (v := .tuple #[.slice ba bms.length bc, .agg #[.int .i64 k, .int .i64 n, .string s, .slice xa x.length xc, .slice a3 ms3.length c3]]) (by simp [results, Try.results36, go_sem, r0, r1, r2, r3, r4]) rfl ?_
  exact HRET.out
set_option maxHeartbeats 4000000 in
theorem drawResolve_calls (a : Option Addr) (cap : Nat) (l : List Int) (w : World) (hin : (M.sl a cap 1 5 (u8M l)).In w) (hu : ∀ z ∈ l, 0 ≤ z ∧ z ≤ 255) (hlen : l.length ≤ 1048576) :
    Calls Try.prog 6 #[.slice a l.length cap] w (RetTI w) := by
  have hr0 := SBox.new 0 0 ⟨#[]⟩ (.slice none 0 0) (.slice none 0 0) w
  have HIN := Lib.hid hin; clear hin; have HU := Lib.hid hu; clear hu; have HR0 := Lib.hid hr0; clear hr0
  go_enter Try.func6, Try.ntmps6
  go_wp2_with fail
  refine (drawCandidates_calls a cap l _ (HIN.out.below (by (repeat (first | with_reducible assumption | with_reducible exact Below.refl _ _ | with_reducible refine Below.drew ?_ | with_reducible refine belowDrewN ?_ _ | ((with_reducible refine Below.setCell ?_ ?_ _); rotate_left; focus (first | omega | (simp; done) | (simp; omega))) | ((with_reducible refine Below.alloc ?_ ?_ _); rotate_left; focus (first | omega | (simp; done) | (simp; omega))))))) HU.out hlen).mono ?_
  rintro e w1 ⟨bs, ba, bc, bms, k, n, s, x, ds, xa, xc, a3, c3, ms3, rfl, hbl, hbi, hbm, hbwf, hi3, hm3, hw3, hct3, hb1⟩
  have hz1 := hb1.size
  simp only [World.size_alloc] at hz1
  obtain ⟨r0, r1, r2, r3, r4, g0, g1, g2, g3, g4⟩ := HR0.out.below hb1 (by simp)
  have hret : RetTI w (.returned (.tuple #[.slice ba bms.length bc, .agg #[.int .i64 k, .int .i64 n, .string s, .slice xa x.length xc, .slice a3 ms3.length c3]])) (setCells w1 w.heap.size 0 [.int .i64 k, .int .i64 n, .string s, .slice xa x.length xc, .slice a3 ms3.length c3]) := by
    have ho4 := setCells_Only w.heap.size (bs := [w.heap.size]) (by simp) [.int .i64 k, .int .i64 n, .string s, .slice xa x.length xc, .slice a3 ms3.length c3] w1 0 (Only.refl _ w1)
    have hbw1 : Below w.heap.size w w1 := by (repeat (first | with_reducible assumption | with_reducible exact Below.refl _ _ | with_reducible refine Below.drew ?_ | with_reducible refine belowDrewN ?_ _ | ((with_reducible refine Below.setCell ?_ ?_ _); rotate_left; focus (first | omega | (simp; done) | (simp; omega))) | ((with_reducible refine Below.alloc ?_ ?_ _); rotate_left; focus (first | omega | (simp; done) | (simp; omega))) | ((with_reducible refine Below.trans ?_ (Below.mono hb1 ?_)); rotate_left; focus (first | omega | (simp; done) | (simp; omega)))))
    exact ⟨bs, ba, bc, bms, k, n, s, x, ds, xa, xc, a3, c3, ms3, rfl, hbl, hbi, M.Mine.mono (hbm.only ho4 fun b hb hn => by have := (hbm.lt b hb).1; simp at hn this; omega) (by simp), hbwf,
      hi3, M.Mine.mono (hm3.only ho4 fun b hb hn => by have := (hm3.lt b hb).1; simp at hn this; omega) (by simp), hw3, hct3, hbw1.trans (ho4.below (by omega) (by simp))⟩
  simp only [setCells, Nat.zero_add, Nat.reduceAdd] at hret
  have hbc := hbm.in_.len
  clear hbi hbm hbwf hi3 hm3 hw3 hct3 hb1
  have HRET := Lib.hid hret; clear hret
  go_wp2_with fail
  refine bodyPost_ret (v := .tuple #[.slice ba bms.length bc, .agg #[.int .i64 k, .int .i64 n, .string s, .slice xa x.length xc, .slice a3 ms3.length c3]]) (by simp [results, Try.results6, go_sem, r0, r1, r2, r3, r4]) rfl ?_
  exact HRET.out
end Go.Proofs.Ytghbnehocggnnaa

/-
  Walks: SameMeaning. No condition.
-/
set_option linter.unusedVariables false
set_option linter.unusedSimpArgs false
set_option maxRecDepth 100000
namespace Go.Proofs.Ytghbnehocggnnaa
open Go.RowKit

set_option maxHeartbeats 4000000 in
theorem iMeaning_calls (ds : List Bnd) (a : Option Addr) (cap : Nat) (ms : List M) (k n : Int) (s : ByteArray) (x : List Int) (xa : Option Addr) (xc : Nat) (ia : Option Addr) (il ic : Nat) (k' n' : Int) (s' : ByteArray) (x' : List Int) (xa' : Option Addr) (xc' : Nat) (ia' : Option Addr) (il' ic' : Nat) (w : World)
    (hB : ds.length + Bnd.wtX ds ≤ 2000000) (hi : Bnd.IsL ds ms) (hin : (M.sl a cap 4 33 ms).In w) (hx : (M.sl xa xc 1 3 (intM x)).In w) (hx' : (M.sl xa' xc' 1 3 (intM x')).In w) :
    Calls Try.prog 51 #[.slice a ms.length cap, .agg #[.int .i64 k, .int .i64 n, .string s, .slice xa x.length xc, .slice ia il ic], .agg #[.int .i64 k', .int .i64 n', .string s', .slice xa' x'.length xc', .slice ia' il' ic']] w (Ret (.bool (meanB s x s' x' ds)) w) := by
  have hcap := hin.len
  have hxl := Ints.len hx
  have hxl' := Ints.len hx'
  have HI := Lib.hid hi; clear hi; have HIN := Lib.hid hin; clear hin; have HX := Lib.hid hx; clear hx; have HX' := Lib.hid hx'; clear hx'
  go_enter Try.func51, Try.ntmps51
  go_wp2_with fail
  refine (lookUp_calls ds a cap ms k n s x xa xc ia il ic _ (by omega) HI.out (HIN.out.below (by (repeat (first | with_reducible assumption | with_reducible exact Below.refl _ _ | with_reducible refine Below.drew ?_ | with_reducible refine belowDrewN ?_ _ | ((with_reducible refine Below.setCell ?_ ?_ _); rotate_left; focus (first | omega | (simp; done) | (simp; omega))) | ((with_reducible refine Below.alloc ?_ ?_ _); rotate_left; focus (first | omega | (simp; done) | (simp; omega))))))) (HX.out.below (by (repeat (first | with_reducible assumption | with_reducible exact Below.refl _ _ | with_reducible refine Below.drew ?_ | with_reducible refine belowDrewN ?_ _ | ((with_reducible refine Below.setCell ?_ ?_ _); rotate_left; focus (first | omega | (simp; done) | (simp; omega))) | ((with_reducible refine Below.alloc ?_ ?_ _); rotate_left; focus (first | omega | (simp; done) | (simp; omega)))))))).mono ?_
  rintro e w1 ⟨xa1, xc1, rfl, hm1, hb1⟩
  have hz1 := hb1.size
  simp only [World.size_alloc] at hz1
  have hq1 : SBox w.heap.size k n s (.slice xa x.length xc) (.slice ia il ic) w1 := ((SBox.new k n s (.slice xa x.length xc) (.slice ia il ic) w).of (heapNew _ _ _ (by simp))).below hb1 (by simp; omega)
  have hr1 : SBox (w.heap.size + 1) k' n' s' (.slice xa' x'.length xc') (.slice ia' il' ic') w1 := by
    have h := (SBox.new k' n' s' (.slice xa' x'.length xc') (.slice ia' il' ic') (w.alloc (.cells #[.int .i64 k, .int .i64 n, .string s, .slice xa x.length xc, .slice ia il ic] 27))).below hb1 (by simp); simpa using h
  have p0 := hq1.lt
  have p1 := hr1.lt
  have hbz : Below w.heap.size w w1 := by (repeat (first | with_reducible assumption | with_reducible exact Below.refl _ _ | with_reducible refine Below.drew ?_ | with_reducible refine belowDrewN ?_ _ | ((with_reducible refine Below.setCell ?_ ?_ _); rotate_left; focus (first | omega | (simp; done) | (simp; omega))) | ((with_reducible refine Below.alloc ?_ ?_ _); rotate_left; focus (first | omega | (simp; done) | (simp; omega))) | ((with_reducible refine Below.trans ?_ (Below.mono hb1 ?_)); rotate_left; focus (first | omega | (simp; done) | (simp; omega)))))
  have hk1 := resB_k s x ds
  obtain ⟨q0, q1, q2, q3, q4, f0, f1, f2, f3, f4⟩ := hq1
  obtain ⟨r0, r1, r2, r3, r4, g0, g1, g2, g3, g4⟩ := hr1
  generalize hR1 : resB s x ds = R1 at *
  obtain ⟨⟨s1, x1, k1, n1⟩, e1⟩ := R1
  simp only [Bnd.s_mk, Bnd.x_mk, Bnd.k_mk, Bnd.n_mk] at *
  have HM1 := Lib.hid hm1; clear hm1; have HR1 := Lib.hid hR1; clear hR1; have HK1 := Lib.hid hk1; clear hk1; have HB1 := Lib.hid hb1; clear hb1
  go_wp2_with fail
  refine (lookUp_calls ds a cap ms k' n' s' x' xa' xc' ia' il' ic' _ (by omega) HI.out (HIN.out.below (by (repeat (first | with_reducible assumption | with_reducible exact Below.refl _ _ | with_reducible refine Below.drew ?_ | with_reducible refine belowDrewN ?_ _ | ((with_reducible refine Below.setCell ?_ ?_ _); rotate_left; focus (first | omega | (simp; done) | (simp; omega))) | ((with_reducible refine Below.alloc ?_ ?_ _); rotate_left; focus (first | omega | (simp; done) | (simp; omega))) | ((with_reducible refine Below.trans ?_ (Below.mono hbz ?_)); rotate_left; focus (first | omega | (simp; done) | (simp; omega))))))) (HX'.out.below (by (repeat (first | with_reducible assumption | with_reducible exact Below.refl _ _ | with_reducible refine Below.drew ?_ | with_reducible refine belowDrewN ?_ _ | ((with_reducible refine Below.setCell ?_ ?_ _); rotate_left; focus (first | omega | (simp; done) | (simp; omega))) | ((with_reducible refine Below.alloc ?_ ?_ _); rotate_left; focus (first | omega | (simp; done) | (simp; omega))) | ((with_reducible refine Below.trans ?_ (Below.mono hbz ?_)); rotate_left; focus (first | omega | (simp; done) | (simp; omega)))))))).mono ?_
  rintro e w2 ⟨xa2, xc2, rfl, hm2, hb2⟩
  have hz2 := hb2.size
  simp only [World.size_alloc] at hz2
  have hq2 : SBox w.heap.size k n s (.slice xa x.length xc) (.slice ia il ic) w2 := (SBox.of ⟨q0, q1, q2, q3, q4, f0, f1, f2, f3, f4⟩ (heapNew _ _ _ p0)).below hb2 (by simp; omega)
  have hr2 : SBox (w.heap.size + 1) k' n' s' (.slice xa' x'.length xc') (.slice ia' il' ic') w2 := (SBox.of ⟨r0, r1, r2, r3, r4, g0, g1, g2, g3, g4⟩ (heapNew _ _ _ p1)).below hb2 (by simp; omega)
  have hy2 : BBox w1.heap.size s1 (.slice xa1 x1.length xc1) k1 n1 w2 := (BBox.new s1 (.slice xa1 x1.length xc1) k1 n1 w1).below hb2 (by simp)
  clear q0 q1 q2 q3 q4 f0 f1 f2 f3 f4 r0 r1 r2 r3 r4 g0 g1 g2 g3 g4
  obtain ⟨q0, q1, q2, q3, q4, f0, f1, f2, f3, f4⟩ := hq2
  obtain ⟨r0, r1, r2, r3, r4, g0, g1, g2, g3, g4⟩ := hr2
  obtain ⟨y0, y1, y2, y3, z0, z1, z2, z3⟩ := hy2
  have p3 : w.heap.size < w2.heap.size := by omega
  have p4 : w.heap.size + 1 < w2.heap.size := by omega
  have p5 : w1.heap.size < w2.heap.size := by omega
  have hbf : Below w.heap.size w w2 := by (repeat (first | with_reducible assumption | with_reducible exact Below.refl _ _ | with_reducible refine Below.drew ?_ | with_reducible refine belowDrewN ?_ _ | ((with_reducible refine Below.setCell ?_ ?_ _); rotate_left; focus (first | omega | (simp; done) | (simp; omega))) | ((with_reducible refine Below.alloc ?_ ?_ _); rotate_left; focus (first | omega | (simp; done) | (simp; omega))) | ((with_reducible refine Below.trans ?_ (Below.mono hbz ?_)); rotate_left; focus (first | omega | (simp; done) | (simp; omega))) | ((with_reducible refine Below.trans ?_ (Below.mono hb2 ?_)); rotate_left; focus (first | omega | (simp; done) | (simp; omega)))))
  have hk2 := resB_k s' x' ds
  generalize hR2 : resB s' x' ds = R2 at *
  obtain ⟨⟨s2, x2, k2, n2⟩, e2⟩ := R2
  simp only [Bnd.s_mk, Bnd.x_mk, Bnd.k_mk, Bnd.n_mk] at *
  have hmean : meanB s x s' x' ds = (if e1 = 1 ∧ e2 = 1 then decide (k1 = k2) && decide (n1 = n2) else decide (e1 = 0) && (decide (e2 = 0) && eqTx s s')) := by
    simp only [meanB, HR1.out, hR2, Bnd.k_mk, Bnd.n_mk]
  have HM2 := Lib.hid hm2; clear hm2; have HR2 := Lib.hid hR2; clear hR2; have HB2 := Lib.hid hb2; clear hb2; have HMEAN := Lib.hid hmean; clear hmean
  have hk1 := HK1.out
  clear HK1
  by_cases hs : s = s'
  · have hss : (s.toList == s'.toList) = true := by rw [hs]; simp
    have hee := eqTx_yes hs
    have HS := Lib.hid hs; clear hs
    by_cases hkk : k1 = k2
    · have hkb : (k1 == k2) = true := by simp [hkk]
      by_cases hnn : n1 = n2
      · have hnb : (n1 == n2) = true := by simp [hnn]
        have HKK := Lib.hid hkk; clear hkk; have HNN := Lib.hid hnn; clear hnn
        rcases hk1 with rfl | rfl | rfl <;> rcases hk2 with rfl | rfl | rfl <;> (go_wp2_with fail; go_ret; exact ⟨ret_b (by rw [HMEAN.out]; simp [HKK.out, HNN.out, hee]), by (repeat (first | with_reducible assumption | with_reducible exact Below.refl _ _ | with_reducible refine Below.drew ?_ | with_reducible refine belowDrewN ?_ _ | ((with_reducible refine Below.setCell ?_ ?_ _); rotate_left; focus (first | omega | (simp; done) | (simp; omega))) | ((with_reducible refine Below.alloc ?_ ?_ _); rotate_left; focus (first | omega | (simp; done) | (simp; omega))) | ((with_reducible refine Below.trans ?_ (Below.mono hbf ?_)); rotate_left; focus (first | omega | (simp; done) | (simp; omega)))))⟩)
      · have hnb : (n1 == n2) = false := by simp [hnn]
        have HKK := Lib.hid hkk; clear hkk; have HNN := Lib.hid hnn; clear hnn
        rcases hk1 with rfl | rfl | rfl <;> rcases hk2 with rfl | rfl | rfl <;> (go_wp2_with fail; go_ret; exact ⟨ret_b (by rw [HMEAN.out]; simp [HKK.out, HNN.out, hee]), by (repeat (first | with_reducible assumption | with_reducible exact Below.refl _ _ | with_reducible refine Below.drew ?_ | with_reducible refine belowDrewN ?_ _ | ((with_reducible refine Below.setCell ?_ ?_ _); rotate_left; focus (first | omega | (simp; done) | (simp; omega))) | ((with_reducible refine Below.alloc ?_ ?_ _); rotate_left; focus (first | omega | (simp; done) | (simp; omega))) | ((with_reducible refine Below.trans ?_ (Below.mono hbf ?_)); rotate_left; focus (first | omega | (simp; done) | (simp; omega)))))⟩)
    · have hkb : (k1 == k2) = false := by simp [hkk]
      have HKK := Lib.hid hkk; clear hkk
      rcases hk1 with rfl | rfl | rfl <;> rcases hk2 with rfl | rfl | rfl <;> (go_wp2_with fail; go_ret; exact ⟨ret_b (by rw [HMEAN.out]; simp [HKK.out, hee]), by (repeat (first | with_reducible assumption | with_reducible exact Below.refl _ _ | with_reducible refine Below.drew ?_ | with_reducible refine belowDrewN ?_ _ | ((with_reducible refine Below.setCell ?_ ?_ _); rotate_left; focus (first | omega | (simp; done) | (simp; omega))) | ((with_reducible refine Below.alloc ?_ ?_ _); rotate_left; focus (first | omega | (simp; done) | (simp; omega))) | ((with_reducible refine Below.trans ?_ (Below.mono hbf ?_)); rotate_left; focus (first | omega | (simp; done) | (simp; omega)))))⟩)
  · have hss := ba_ne hs
    have hee := eqTx_no hs
    have HS := Lib.hid hs; clear hs
    by_cases hkk : k1 = k2
    · have hkb : (k1 == k2) = true := by simp [hkk]
      by_cases hnn : n1 = n2
      · have hnb : (n1 == n2) = true := by simp [hnn]
        have HKK := Lib.hid hkk; clear hkk; have HNN := Lib.hid hnn; clear hnn
        rcases hk1 with rfl | rfl | rfl <;> rcases hk2 with rfl | rfl | rfl <;> (go_wp2_with fail; go_ret; exact ⟨ret_b (by rw [HMEAN.out]; simp [HKK.out, HNN.out, hee]), by (repeat (first | with_reducible assumption | with_reducible exact Below.refl _ _ | with_reducible refine Below.drew ?_ | with_reducible refine belowDrewN ?_ _ | ((with_reducible refine Below.setCell ?_ ?_ _); rotate_left; focus (first | omega | (simp; done) | (simp; omega))) | ((with_reducible refine Below.alloc ?_ ?_ _); rotate_left; focus (first | omega | (simp; done) | (simp; omega))) | ((with_reducible refine Below.trans ?_ (Below.mono hbf ?_)); rotate_left; focus (first | omega | (simp; done) | (simp; omega)))))⟩)
      · have hnb : (n1 == n2) = false := by simp [hnn]
        have HKK := Lib.hid hkk; clear hkk; have HNN := Lib.hid hnn; clear hnn
        rcases hk1 with rfl | rfl | rfl <;> rcases hk2 with rfl | rfl | rfl <;> (go_wp2_with fail; go_ret; exact ⟨ret_b (by rw [HMEAN.out]; simp [HKK.out, HNN.out, hee]), by (repeat (first | with_reducible assumption | with_reducible exact Below.refl _ _ | with_reducible refine Below.drew ?_ | with_reducible refine belowDrewN ?_ _ | ((with_reducible refine Below.setCell ?_ ?_ _); rotate_left; focus (first | omega | (simp; done) | (simp; omega))) | ((with_reducible refine Below.alloc ?_ ?_ _); rotate_left; focus (first | omega | (simp; done) | (simp; omega))) | ((with_reducible refine Below.trans ?_ (Below.mono hbf ?_)); rotate_left; focus (first | omega | (simp; done) | (simp; omega)))))⟩)
    · have hkb : (k1 == k2) = false := by simp [hkk]
      have HKK := Lib.hid hkk; clear hkk
      rcases hk1 with rfl | rfl | rfl <;> rcases hk2 with rfl | rfl | rfl <;> (go_wp2_with fail; go_ret; exact ⟨ret_b (by rw [HMEAN.out]; simp [HKK.out, hee]), by (repeat (first | with_reducible assumption | with_reducible exact Below.refl _ _ | with_reducible refine Below.drew ?_ | with_reducible refine belowDrewN ?_ _ | ((with_reducible refine Below.setCell ?_ ?_ _); rotate_left; focus (first | omega | (simp; done) | (simp; omega))) | ((with_reducible refine Below.alloc ?_ ?_ _); rotate_left; focus (first | omega | (simp; done) | (simp; omega))) | ((with_reducible refine Below.trans ?_ (Below.mono hbf ?_)); rotate_left; focus (first | omega | (simp; done) | (simp; omega)))))⟩)
/-- do they mean the same, all being valid -/
noncomputable def meanG (ok : Bool) (s : ByteArray) (x : List Int) (s' : ByteArray) (x' : List Int) (ds : List Bnd) : Bool := ok && meanB s x s' x' ds
set_option maxHeartbeats 2000000 in
theorem iSameMeaning_calls (ds : List Bnd) (a : Option Addr) (cap : Nat) (ms : List M) (k n : Int) (s : ByteArray) (x : List Int) (es : List Syn) (xa : Option Addr) (xc : Nat) (ia : Option Addr) (ic : Nat) (ims : List M) (k' n' : Int) (s' : ByteArray) (x' : List Int) (es' : List Syn) (xa' : Option Addr) (xc' : Nat) (ia' : Option Addr) (ic' : Nat) (ims' : List M) (w : World)
    (hwf : Bnd.wfL ds) (hs9 : ∀ d ∈ ds, d.s.size ≤ 1048576) (hB : ds.length + Bnd.wtX ds ≤ 2000000) (hi : Bnd.IsL ds ms) (hin : (M.sl a cap 4 33 ms).In w)
    (hwf2 : (Syn.mk k n s x es).wf) (hcB : Syn.countL es ≤ 1000000000) (hi2 : Syn.IsL 27 es ims) (hown : (SynOwn 27 xa xc x ia ic ims).In w)
    (hwf3 : (Syn.mk k' n' s' x' es').wf) (hcB3 : Syn.countL es' ≤ 1000000000) (hi3 : Syn.IsL 27 es' ims') (hown3 : (SynOwn 27 xa' xc' x' ia' ic' ims').In w) :
    Calls Try.prog 16 #[.slice a ms.length cap, .agg #[.int .i64 k, .int .i64 n, .string s, .slice xa x.length xc, .slice ia ims.length ic], .agg #[.int .i64 k', .int .i64 n', .string s', .slice xa' x'.length xc', .slice ia' ims'.length ic']] w (Ret (.bool (meanG (areB ds && (isIdB k n s x es && isIdB k' n' s' x' es')) s x s' x' ds)) w) := by
  have hl := hi.length
  have hcap := hin.len
  have hx := SynIn_x hown
  have hxl := Ints.len hx
  have hx' := SynIn_x hown3
  have hxl' := Ints.len hx'
  have HI := Lib.hid hi; clear hi; have HIN := Lib.hid hin; clear hin; have HX := Lib.hid hx; clear hx; have HX' := Lib.hid hx'; clear hx'; have HWF := Lib.hid hwf; clear hwf; have HS9 := Lib.hid hs9; clear hs9; have HL := Lib.hid hl; clear hl; have HI2 := Lib.hid hi2; clear hi2; have HOWN := Lib.hid hown; clear hown; have HWF2 := Lib.hid hwf2; clear hwf2; have HI3 := Lib.hid hi3; clear hi3; have HOWN3 := Lib.hid hown3; clear hown3; have HWF3 := Lib.hid hwf3; clear hwf3
  go_enter Try.func16, Try.ntmps16
  go_wp2_with fail
  refine (iAreBindings_calls ds a cap ms _ HWF.out HI.out (HIN.out.below (by (repeat (first | with_reducible assumption | with_reducible exact Below.refl _ _ | with_reducible refine Below.drew ?_ | with_reducible refine belowDrewN ?_ _ | ((with_reducible refine Below.setCell ?_ ?_ _); rotate_left; focus (first | omega | (simp; done) | (simp; omega))) | ((with_reducible refine Below.alloc ?_ ?_ _); rotate_left; focus (first | omega | (simp; done) | (simp; omega))))))) HS9.out).mono ?_
  rintro e w1 ⟨rfl, hb1⟩
  have hz1 := hb1.size
  simp only [World.size_alloc] at hz1
  have hq1 : SBox w.heap.size k n s (.slice xa x.length xc) (.slice ia ims.length ic) w1 := ((SBox.new k n s (.slice xa x.length xc) (.slice ia ims.length ic) w).of (heapNew _ _ _ (by simp))).below hb1 (by simp; omega)
  have hr1 : SBox (w.heap.size + 1) k' n' s' (.slice xa' x'.length xc') (.slice ia' ims'.length ic') w1 := by
    have h := (SBox.new k' n' s' (.slice xa' x'.length xc') (.slice ia' ims'.length ic') (w.alloc (.cells #[.int .i64 k, .int .i64 n, .string s, .slice xa x.length xc, .slice ia ims.length ic] 27))).below hb1 (by simp); simpa using h
  have p0 := hq1.lt
  have p1 := hr1.lt
  have hq10 := hq1
  have hr10 := hr1
  obtain ⟨q0, q1, q2, q3, q4, f0, f1, f2, f3, f4⟩ := hq1
  obtain ⟨r0, r1, r2, r3, r4, g0, g1, g2, g3, g4⟩ := hr1
  have HQ10 := Lib.hid hq10; clear hq10; have HR10 := Lib.hid hr10; clear hr10
  cases hA : areB ds with
  | false =>
    have hno : meanG (areB ds && (isIdB k n s x es && isIdB k' n' s' x' es')) s x s' x' ds = false := by rw [hA]; rfl
    have HA := Lib.hid hA; clear hA; have HNO := Lib.hid hno; clear hno
    go_wp2_with fail
    go_ret
    exact ⟨ret_b (by rw [HNO.out]), by (repeat (first | with_reducible assumption | with_reducible exact Below.refl _ _ | with_reducible refine Below.drew ?_ | with_reducible refine belowDrewN ?_ _ | ((with_reducible refine Below.setCell ?_ ?_ _); rotate_left; focus (first | omega | (simp; done) | (simp; omega))) | ((with_reducible refine Below.alloc ?_ ?_ _); rotate_left; focus (first | omega | (simp; done) | (simp; omega))) | ((with_reducible refine Below.trans ?_ (Below.mono hb1 ?_)); rotate_left; focus (first | omega | (simp; done) | (simp; omega)))))⟩
  | true =>
    go_wp2_with fail
    refine (iIsIdentifier_calls k n s x es xa xc ia ic ims _ HWF2.out hcB HI2.out (HOWN.out.below (by (repeat (first | with_reducible assumption | with_reducible exact Below.refl _ _ | with_reducible refine Below.drew ?_ | with_reducible refine belowDrewN ?_ _ | ((with_reducible refine Below.setCell ?_ ?_ _); rotate_left; focus (first | omega | (simp; done) | (simp; omega))) | ((with_reducible refine Below.alloc ?_ ?_ _); rotate_left; focus (first | omega | (simp; done) | (simp; omega))) | ((with_reducible refine Below.trans ?_ (Below.mono hb1 ?_)); rotate_left; focus (first | omega | (simp; done) | (simp; omega)))))))).mono ?_
    rintro e w2 ⟨rfl, hb2⟩
    have hz2 := hb2.size
    have hq2 := HQ10.out.below hb2 p0
    have hr2 := HR10.out.below hb2 p1
    have p2 := hq2.lt
    have p3 := hr2.lt
    clear q0 q1 q2 q3 q4 f0 f1 f2 f3 f4 r0 r1 r2 r3 r4 g0 g1 g2 g3 g4
    have hq20 := hq2
    have hr20 := hr2
    obtain ⟨q0, q1, q2, q3, q4, f0, f1, f2, f3, f4⟩ := hq2
    obtain ⟨r0, r1, r2, r3, r4, g0, g1, g2, g3, g4⟩ := hr2
    have HQ20 := Lib.hid hq20; clear hq20; have HR20 := Lib.hid hr20; clear hr20
    cases hid : isIdB k n s x es with
    | false =>
      have hno : meanG (areB ds && (isIdB k n s x es && isIdB k' n' s' x' es')) s x s' x' ds = false := by rw [hA, hid]; rfl
      have HA := Lib.hid hA; clear hA; have HID := Lib.hid hid; clear hid; have HNO := Lib.hid hno; clear hno
      go_wp2_with fail
      go_ret
      exact ⟨ret_b (by rw [HNO.out]), by (repeat (first | with_reducible assumption | with_reducible exact Below.refl _ _ | with_reducible refine Below.drew ?_ | with_reducible refine belowDrewN ?_ _ | ((with_reducible refine Below.setCell ?_ ?_ _); rotate_left; focus (first | omega | (simp; done) | (simp; omega))) | ((with_reducible refine Below.alloc ?_ ?_ _); rotate_left; focus (first | omega | (simp; done) | (simp; omega))) | ((with_reducible refine Below.trans ?_ (Below.mono hb1 ?_)); rotate_left; focus (first | omega | (simp; done) | (simp; omega))) | ((with_reducible refine Below.trans ?_ (Below.mono hb2 ?_)); rotate_left; focus (first | omega | (simp; done) | (simp; omega)))))⟩
    | true =>
      go_wp2_with fail
      refine (iIsIdentifier_calls k' n' s' x' es' xa' xc' ia' ic' ims' _ HWF3.out hcB3 HI3.out (HOWN3.out.below (by (repeat (first | with_reducible assumption | with_reducible exact Below.refl _ _ | with_reducible refine Below.drew ?_ | with_reducible refine belowDrewN ?_ _ | ((with_reducible refine Below.setCell ?_ ?_ _); rotate_left; focus (first | omega | (simp; done) | (simp; omega))) | ((with_reducible refine Below.alloc ?_ ?_ _); rotate_left; focus (first | omega | (simp; done) | (simp; omega))) | ((with_reducible refine Below.trans ?_ (Below.mono hb1 ?_)); rotate_left; focus (first | omega | (simp; done) | (simp; omega))) | ((with_reducible refine Below.trans ?_ (Below.mono hb2 ?_)); rotate_left; focus (first | omega | (simp; done) | (simp; omega)))))))).mono ?_
      rintro e w3 ⟨rfl, hb3⟩
      have hz3 := hb3.size
      have hq3 := HQ20.out.below hb3 p2
      have hr3 := HR20.out.below hb3 p3
      clear q0 q1 q2 q3 q4 f0 f1 f2 f3 f4 r0 r1 r2 r3 r4 g0 g1 g2 g3 g4
      have p4 := hq3.lt
      have p5 := hr3.lt
      obtain ⟨q0, q1, q2, q3, q4, f0, f1, f2, f3, f4⟩ := hq3
      obtain ⟨r0, r1, r2, r3, r4, g0, g1, g2, g3, g4⟩ := hr3
      cases hid2 : isIdB k' n' s' x' es' with
      | false =>
        have hno : meanG (areB ds && (isIdB k n s x es && isIdB k' n' s' x' es')) s x s' x' ds = false := by rw [hA, hid, hid2]; rfl
        have HA := Lib.hid hA; clear hA; have HID := Lib.hid hid; clear hid; have HID2 := Lib.hid hid2; clear hid2; have HNO := Lib.hid hno; clear hno
        go_wp2_with fail
        go_ret
        exact ⟨ret_b (by rw [HNO.out]), by (repeat (first | with_reducible assumption | with_reducible exact Below.refl _ _ | with_reducible refine Below.drew ?_ | with_reducible refine belowDrewN ?_ _ | ((with_reducible refine Below.setCell ?_ ?_ _); rotate_left; focus (first | omega | (simp; done) | (simp; omega))) | ((with_reducible refine Below.alloc ?_ ?_ _); rotate_left; focus (first | omega | (simp; done) | (simp; omega))) | ((with_reducible refine Below.trans ?_ (Below.mono hb1 ?_)); rotate_left; focus (first | omega | (simp; done) | (simp; omega))) | ((with_reducible refine Below.trans ?_ (Below.mono hb2 ?_)); rotate_left; focus (first | omega | (simp; done) | (simp; omega))) | ((with_reducible refine Below.trans ?_ (Below.mono hb3 ?_)); rotate_left; focus (first | omega | (simp; done) | (simp; omega)))))⟩
      | true =>
        have hno : meanG (areB ds && (isIdB k n s x es && isIdB k' n' s' x' es')) s x s' x' ds = meanB s x s' x' ds := by rw [hA, hid, hid2]; rfl
        have HA := Lib.hid hA; clear hA; have HID := Lib.hid hid; clear hid; have HID2 := Lib.hid hid2; clear hid2; have HNO := Lib.hid hno; clear hno
        go_wp2_with fail
        refine (iMeaning_calls ds a cap ms k n s x xa xc ia ims.length ic k' n' s' x' xa' xc' ia' ims'.length ic' _ hB HI.out (HIN.out.below (by (repeat (first | with_reducible assumption | with_reducible exact Below.refl _ _ | with_reducible refine Below.drew ?_ | with_reducible refine belowDrewN ?_ _ | ((with_reducible refine Below.setCell ?_ ?_ _); rotate_left; focus (first | omega | (simp; done) | (simp; omega))) | ((with_reducible refine Below.alloc ?_ ?_ _); rotate_left; focus (first | omega | (simp; done) | (simp; omega))) | ((with_reducible refine Below.trans ?_ (Below.mono hb1 ?_)); rotate_left; focus (first | omega | (simp; done) | (simp; omega))) | ((with_reducible refine Below.trans ?_ (Below.mono hb2 ?_)); rotate_left; focus (first | omega | (simp; done) | (simp; omega))) | ((with_reducible refine Below.trans ?_ (Below.mono hb3 ?_)); rotate_left; focus (first | omega | (simp; done) | (simp; omega))))))) (HX.out.below (by (repeat (first | with_reducible assumption | with_reducible exact Below.refl _ _ | with_reducible refine Below.drew ?_ | with_reducible refine belowDrewN ?_ _ | ((with_reducible refine Below.setCell ?_ ?_ _); rotate_left; focus (first | omega | (simp; done) | (simp; omega))) | ((with_reducible refine Below.alloc ?_ ?_ _); rotate_left; focus (first | omega | (simp; done) | (simp; omega))) | ((with_reducible refine Below.trans ?_ (Below.mono hb1 ?_)); rotate_left; focus (first | omega | (simp; done) | (simp; omega))) | ((with_reducible refine Below.trans ?_ (Below.mono hb2 ?_)); rotate_left; focus (first | omega | (simp; done) | (simp; omega))) | ((with_reducible refine Below.trans ?_ (Below.mono hb3 ?_)); rotate_left; focus (first | omega | (simp; done) | (simp; omega))))))) (HX'.out.below (by (repeat (first | with_reducible assumption | with_reducible exact Below.refl _ _ | with_reducible refine Below.drew ?_ | with_reducible refine belowDrewN ?_ _ | ((with_reducible refine Below.setCell ?_ ?_ _); rotate_left; focus (first | omega | (simp; done) | (simp; omega))) | ((with_reducible refine Below.alloc ?_ ?_ _); rotate_left; focus (first | omega | (simp; done) | (simp; omega))) | ((with_reducible refine Below.trans ?_ (Below.mono hb1 ?_)); rotate_left; focus (first | omega | (simp; done) | (simp; omega))) | ((with_reducible refine Below.trans ?_ (Below.mono hb2 ?_)); rotate_left; focus (first | omega | (simp; done) | (simp; omega))) | ((with_reducible refine Below.trans ?_ (Below.mono hb3 ?_)); rotate_left; focus (first | omega | (simp; done) | (simp; omega)))))))).mono ?_
        rintro e w4 ⟨rfl, hb4⟩
        go_wp2_with fail
        go_ret
        exact ⟨ret_b (by rw [HNO.out]), by (repeat (first | with_reducible assumption | with_reducible exact Below.refl _ _ | with_reducible refine Below.drew ?_ | with_reducible refine belowDrewN ?_ _ | ((with_reducible refine Below.setCell ?_ ?_ _); rotate_left; focus (first | omega | (simp; done) | (simp; omega))) | ((with_reducible refine Below.alloc ?_ ?_ _); rotate_left; focus (first | omega | (simp; done) | (simp; omega))) | ((with_reducible refine Below.trans ?_ (Below.mono hb1 ?_)); rotate_left; focus (first | omega | (simp; done) | (simp; omega))) | ((with_reducible refine Below.trans ?_ (Below.mono hb2 ?_)); rotate_left; focus (first | omega | (simp; done) | (simp; omega))) | ((with_reducible refine Below.trans ?_ (Below.mono hb3 ?_)); rotate_left; focus (first | omega | (simp; done) | (simp; omega))) | ((with_reducible refine Below.trans ?_ (Below.mono hb4 ?_)); rotate_left; focus (first | omega | (simp; done) | (simp; omega)))))⟩
end Go.Proofs.Ytghbnehocggnnaa

/-
  Plain law: what resolving tells of bindings and of one binding more. No condition.
-/
set_option linter.unusedVariables false
set_option linter.unusedSimpArgs false
namespace Go.Proofs.Ytghbnehocggnnaa
open Go.RowKit

theorem subB_refl (x : List Int) : subB x x = true := (subB_iff _ _).2 fun _ h => h
theorem sub_len : ∀ (b a : List Int), a.Pairwise (· < ·) → b.Pairwise (· < ·) → (∀ z ∈ a, z ∈ b) → a.length ≤ b.length ∧ (b.length ≤ a.length → a = b)
  | [], [], _, _, _ => ⟨Nat.le_refl _, fun _ => rfl⟩
  | [], x :: r, _, _, h => absurd (h x (List.mem_cons_self ..)) (by simp)
  | y :: t, [], _, _, _ => ⟨Nat.zero_le _, fun h => by simp at h⟩
  | y :: t, x :: r, ha, hb, h => by
    rw [List.pairwise_cons] at ha hb
    by_cases hxy : x = y
    · subst hxy
      have h1 := sub_len t r ha.2 hb.2 fun z hz => by
        rcases List.mem_cons.1 (h z (List.mem_cons_of_mem _ hz)) with h2 | h2
        · subst h2; have := ha.1 z hz; omega
        · exact h2
      refine ⟨by simp only [List.length_cons]; omega, fun hl => ?_⟩
      rw [h1.2 (by simp only [List.length_cons] at hl; omega)]
    · have hxt : x ∈ t := by
        rcases List.mem_cons.1 (h x (List.mem_cons_self ..)) with h2 | h2
        · exact absurd h2 hxy
        · exact h2
      have hyx := hb.1 x hxt
      have h1 := sub_len t (x :: r) (List.pairwise_cons.2 ha) hb.2 fun z hz => by
        rcases List.mem_cons.1 (h z hz) with h2 | h2
        · subst h2
          rcases List.mem_cons.1 hz with h3 | h3
          · exact absurd h3.symm hxy
          · have := ha.1 z h3; omega
        · exact h2
      have h2 := h1.1
      simp only [List.length_cons] at h2 ⊢
      exact ⟨by omega, fun hl => by omega⟩
theorem cands_snoc (s : ByteArray) (x : List Int) (ds : List Bnd) (B : Bnd) : cands s x (ds ++ [B]) = if candB s x B = true then cands s x ds ++ [B] else cands s x ds := by
  rw [cands, cands, List.filter_append]
  cases h : candB s x B <;> simp [h]
theorem resB_zero {s : ByteArray} {x : List Int} {ds : List Bnd} : (resB s x ds).2 = 0 ↔ cands s x ds = [] := by
  unfold resB
  cases h : bestOf (cands s x ds) with
  | none => simp [bestOf_none.1 h]
  | some b =>
    have hne : ¬ cands s x ds = [] := fun hn => by rw [bestOf_none.2 hn] at h; cases h
    simp only [hne, iff_false]
    split <;> simp
theorem resB_in {s : ByteArray} {x : List Int} {ds : List Bnd} (h : (resB s x ds).2 = 1) : ∀ c ∈ cands s x ds, subB c.x (resB s x ds).1.x = true := by
  unfold resB at h ⊢
  cases hb : bestOf (cands s x ds) with
  | none => rw [hb] at h; simp at h
  | some b =>
    rw [hb] at h
    simp only at h ⊢
    by_cases ha : (cands s x ds).all (fun c => subB c.x b.x) = true
    · rw [if_pos ha]
      rw [List.all_eq_true] at ha
      exact ha
    · rw [if_neg ha] at h; simp at h
/-- resolving finds nothing if and only if there are no candidates -/
theorem resG_zero (ok : Bool) (s : ByteArray) (x : List Int) (ds : List Bnd) : (resG ok s x ds).2 = 0 ↔ (candG ok s x ds) = [] := by
  cases ok with
  | false => simp [resG, candG]
  | true => exact resB_zero
theorem resG_in (ok : Bool) (s : ByteArray) (x : List Int) (ds : List Bnd) (h : (resG ok s x ds).2 = 1) : ∀ c ∈ candG ok s x ds, subB c.x (resG ok s x ds).1.x = true := by
  cases ok with
  | false => simp [resG] at h
  | true => exact resB_in h
theorem resG_k (ok : Bool) (s : ByteArray) (x : List Int) (ds : List Bnd) : (resG ok s x ds).2 = 0 ∨ (resG ok s x ds).2 = 1 ∨ (resG ok s x ds).2 = 2 := by
  cases ok with
  | false => exact .inl rfl
  | true => exact resB_k s x ds
/-- one binding more: nothing changes, or there is no greatest set, or the new one is found -/
theorem resB_snoc (s : ByteArray) (x : List Int) (ds : List Bnd) (B : Bnd) : resB s x (ds ++ [B]) = resB s x ds ∨ (resB s x (ds ++ [B])).2 = 2 ∨ resB s x (ds ++ [B]) = (B, 1) := by
  cases hc : candB s x B with
  | false =>
    left
    have : cands s x (ds ++ [B]) = cands s x ds := by rw [cands_snoc, if_neg (by rw [hc]; decide)]
    unfold resB; rw [this]
  | true =>
    have hC : cands s x (ds ++ [B]) = cands s x ds ++ [B] := by rw [cands_snoc, if_pos hc]
    have hb := bestOf_snoc (cands s x ds) B
    have hnew : bestOf (cands s x ds ++ [B]) = some B → (resB s x (ds ++ [B])).2 = 2 ∨ resB s x (ds ++ [B]) = (B, 1) := fun h => by
      unfold resB; rw [hC, h]
      simp only
      split
      · exact .inr rfl
      · exact .inl rfl
    cases h : bestOf (cands s x ds) with
    | none => rw [h] at hb; exact .inr (hnew hb)
    | some c =>
      rw [h] at hb
      simp only [better] at hb
      split at hb
      · exact .inr (hnew hb)
      · by_cases ha : (cands s x ds ++ [B]).all (fun d => subB d.x c.x) = true
        · left
          have ha2 : (cands s x ds).all (fun d => subB d.x c.x) = true := by
            rw [List.all_append] at ha; exact (Bool.and_eq_true_iff.1 ha).1
          unfold resB; rw [hC, hb, h]
          simp only [ha, ha2, if_true]
        · right; left
          unfold resB; rw [hC, hb]
          simp only [ha]; rfl
theorem Good_snoc {ds : List Bnd} {B : Bnd} (h : Good ds) (h1 : bndOk B.s B.x B.k B.n = true) (h2 : ¬ Clash ds B.s B.x) : Good (ds ++ [B]) := by
  have hd : (ds ++ [B])[ds.length]? = some B := by simp
  have ht : (ds ++ [B]).take ds.length = ds := by simp
  have ht2 : (ds ++ [B]).take (ds.length + 1) = ds ++ [B] := List.take_of_length_le (by simp)
  have := Good_step (ds := ds ++ [B]) (k := ds.length) (d := B) (by rw [ht]; exact h) hd h1 (by rw [ht]; exact h2)
  rwa [ht2] at this
theorem Good_asc {ds : List Bnd} (h : Good ds) {d : Bnd} (hd : d ∈ ds) : Asc d.x := by
  obtain ⟨i, hi, he⟩ := List.mem_iff_getElem.1 hd
  have h1 := (h i d (by rw [List.getElem?_eq_getElem hi, he])).1
  unfold bndOk at h1
  have h2 := (Bool.and_eq_true_iff.1 (Bool.and_eq_true_iff.1 h1).2).1
  exact (ssB_iff _).1 h2
/-- an identifier that is bound with its own scopes resolves to that binding -/
theorem resB_new {s : ByteArray} {x : List Int} {ds : List Bnd} {k n : Int} (h : Good ds) (hx : Asc x) (hc : ¬ Clash ds s x) : resB s x (ds ++ [.mk s x k n]) = (.mk s x k n, 1) := by
  have hcb : candB s x (.mk s x k n) = true := candB_yes rfl (subB_refl x)
  have hC : cands s x (ds ++ [.mk s x k n]) = cands s x ds ++ [.mk s x k n] := by rw [cands_snoc, if_pos hcb]
  have hlt : ∀ c ∈ cands s x ds, c.x.length < x.length := fun c hm => by
    obtain ⟨h1, h2⟩ := cands_mem.1 hm
    obtain ⟨h3, h4⟩ := candB_iff.1 h2
    have h5 := sub_len x c.x (Good_asc h h1).2 hx.2 ((subB_iff _ _).1 h4)
    by_cases hl : x.length ≤ c.x.length
    · exact absurd ⟨c, h1, h3, h5.2 hl⟩ hc
    · omega
  refine resB_found ?_ ?_
  · rw [hC, bestOf_snoc]
    cases hb : bestOf (cands s x ds) with
    | none => rfl
    | some c =>
      have := hlt c (bestOf_mem hb)
      simp [better, this]
  · rw [hC]
    intro c hm
    rcases List.mem_append.1 hm with hm | hm
    · exact (candB_iff.1 (cands_mem.1 hm).2).2
    · simp at hm; subst hm; exact subB_refl x
theorem resB_mem {s : ByteArray} {x : List Int} {ds : List Bnd} (h : (resB s x ds).2 = 1) : (resB s x ds).1 ∈ cands s x ds := by
  unfold resB at h ⊢
  cases hb : bestOf (cands s x ds) with
  | none => rw [hb] at h; simp at h
  | some b =>
    rw [hb] at h
    simp only at h ⊢
    by_cases ha : (cands s x ds).all (fun c => subB c.x b.x) = true
    · rw [if_pos ha]; exact bestOf_mem hb
    · rw [if_neg ha] at h; simp at h
/-- the scopes of each candidate lie within those of the one that is found -/
theorem resG_sub (ds : List Bnd) (o : Bool) (s : ByteArray) (x : List Int) (h : (resG (areB ds && o) s x ds).2 = 1) : ∀ c ∈ candG (areB ds && o) s x ds, (ssB c.x && ssB (resG (areB ds && o) s x ds).1.x && subB c.x (resG (areB ds && o) s x ds).1.x) = true := by
  intro c hc
  have hs := resG_in _ _ _ _ h c hc
  cases hok : (areB ds && o) with
  | false => rw [hok] at h; simp [resG] at h
  | true =>
    rw [hok] at h hc hs
    have hg := (areB_iff.1 (Bool.and_eq_true_iff.1 hok).1).2
    have h1 := (ssB_iff _).2 (Good_asc hg (cands_mem.1 (show c ∈ cands s x ds from hc)).1)
    have h2 := (ssB_iff _).2 (Good_asc hg (cands_mem.1 (resB_mem (s := s) (x := x) (ds := ds) h)).1)
    rw [h1, hs, show ssB (resG true s x ds).1.x = true from h2]; rfl
theorem Bnd.wf1.small {ds : List Bnd} (h : ∀ d ∈ ds, Bnd.wf1 d) : Bnd.wfL ds ∧ (∀ d ∈ ds, d.s.size ≤ 100) ∧ Bnd.wtX ds ≤ 108 * ds.length := by
  induction ds with
  | nil => exact ⟨trivial, fun d hd => (by cases hd), by simp [Bnd.wtX]⟩
  | cons d r ih =>
    obtain ⟨h1, h2, h3⟩ := ih fun d hd => h d (List.mem_cons_of_mem _ hd)
    have h0 := h d (List.mem_cons_self ..)
    obtain ⟨s, x, k, n⟩ := d
    refine ⟨⟨Bnd.wf1.wf h0, h1⟩, fun d hd => ?_, ?_⟩
    · rcases List.mem_cons.1 hd with rfl | hd
      · exact h0.1
      · exact h2 d hd
    · have := h0.1; have := h0.2.1
      simp only [Bnd.wtX, Bnd.wt, List.length_cons]; omega
end Go.Proofs.Ytghbnehocggnnaa

/-
  Walks: EqualBindings. No condition.
-/
set_option linter.unusedVariables false
set_option linter.unusedSimpArgs false
set_option maxRecDepth 100000
namespace Go.Proofs.Ytghbnehocggnnaa
open Go.RowKit

open Classical in
noncomputable def eqBL (x y : List Bnd) : Bool := decide (x = y)
theorem eqBL_iff (x y : List Bnd) : eqBL x y = true ↔ x = y := by simp [eqBL]
theorem eqBL_not (x y : List Bnd) : eqBL x y = false ↔ ¬ x = y := by simp [eqBL]
theorem int_ne {a b : Int} (h : ¬ a = b) : (a != b) = true := by simp [h]
set_option maxHeartbeats 1000000 in
theorem sEqualBindings_calls (ds : List Bnd) (a : Option Addr) (cap : Nat) (ms : List M) (ds' : List Bnd) (a' : Option Addr) (cap' : Nat) (ms' : List M) (w : World) (hi : Bnd.IsL ds ms) (hin : (M.sl a cap 4 33 ms).In w) (hi' : Bnd.IsL ds' ms') (hin' : (M.sl a' cap' 4 33 ms').In w) :
    Calls Try.prog 11 #[.slice a ms.length cap, .slice a' ms'.length cap'] w (Ret (.bool (eqBL ds ds')) w) := by
  have hln := hi.length
  have hln' := hi'.length
  have hcapm := hin.len
  have hcapm' := hin'.len
  by_cases hl : ms.length = ms'.length
  · have hl' : ((ms.length : Int) != (ms'.length : Int)) = false := by simp [hl]
    have HIN := Lib.hid hin; clear hin; have HI := Lib.hid hi; clear hi; have HIN' := Lib.hid hin'; clear hin'; have HI' := Lib.hid hi'; clear hi'; have HLN := Lib.hid hln; clear hln; have HLN' := Lib.hid hln'; clear hln'; have HL := Lib.hid hl; clear hl
    go_enter Try.func11, Try.ntmps11
    go_wp2_with fail
    go_loopw [13] (fun i wr => ∃ j : Nat, j ≤ ms.length ∧ i = .int .i64 j ∧ ds.take j = ds'.take j ∧ Below w.heap.size w wr ∧ w.heap.size ≤ wr.heap.size) (fun i _ => ms.length - (intOf i).toNat)
    case atStart => exact ⟨0, Nat.zero_le _, rfl, by simp, Below.refl _ _, Nat.le_refl _⟩
    case round =>
      obtain ⟨j, hj, rfl, hpre, hb, hsz⟩ := hrel
      by_cases hlt : j < ms.length
      · have hlt' : j < ms'.length := by have := HL.out; omega
        obtain ⟨b, off, s1, x1, k1, n1, xa1, xc1, rfl, hd, hx1, c0, c1, c2, c3⟩ := Bnd.elem (HIN.out.below hb) HI.out j hlt
        obtain ⟨b', off', s1', x1', k1', n1', xa1', xc1', rfl, hd', hx1', c0', c1', c2', c3'⟩ := Bnd.elem (HIN'.out.below hb) HI'.out j hlt'
        have hbl := World.block_lt_of_cell? wr _ c0
        have hbl' := World.block_lt_of_cell? wr _ c0'
        by_cases heq : Bnd.mk s1 x1 k1 n1 = Bnd.mk s1' x1' k1' n1'
        · have hpre2 := take_eq_succ hpre hd hd' heq
          simp only [Bnd.mk.injEq] at heq
          obtain ⟨rfl, rfl, rfl, rfl⟩ := heq
          have hsx : eqL x1 x1 = true := (eqL_iff _ _).2 rfl
          have HD := Lib.hid hd; clear hd; have HD' := Lib.hid hd'; clear hd'; have HPRE := Lib.hid hpre; clear hpre; have HPRE2 := Lib.hid hpre2; clear hpre2; have HX1 := Lib.hid hx1; clear hx1; have HX1' := Lib.hid hx1'; clear hx1'
          go_wp2_with fail
          go_quiet (first | (go_at_call 44; refine Calls.quiet_of (l2SameInts_q xa1 xc1 x1 xa1' xc1' x1 _ (HX1.out.below (by (repeat (first | with_reducible assumption | with_reducible exact Below.refl _ _ | with_reducible refine Below.drew ?_ | with_reducible refine belowDrewN ?_ _ | ((with_reducible refine Below.setCell ?_ ?_ _); rotate_left; focus (first | omega | (simp; done) | (simp; omega))) | ((with_reducible refine Below.alloc ?_ ?_ _); rotate_left; focus (first | omega | (simp; done) | (simp; omega))))))) (HX1'.out.below (by (repeat (first | with_reducible assumption | with_reducible exact Below.refl _ _ | with_reducible refine Below.drew ?_ | with_reducible refine belowDrewN ?_ _ | ((with_reducible refine Below.setCell ?_ ?_ _); rotate_left; focus (first | omega | (simp; done) | (simp; omega))) | ((with_reducible refine Below.alloc ?_ ?_ _); rotate_left; focus (first | omega | (simp; done) | (simp; omega))))))))))
          go_wp2_with fail
          go_roundw
          case rel => exact ⟨j + 1, by omega, by go_num, HPRE2.out, belowDrewN hb _, hsz⟩
          case measure => simp [intOf]; omega
        · have hne := ne_of_get hd hd' heq
          by_cases hs : s1 = s1'
          · subst hs
            by_cases hx : x1 = x1'
            · subst hx
              have hsx : eqL x1 x1 = true := (eqL_iff _ _).2 rfl
              by_cases hk : k1 = k1'
              · subst hk
                have hn : ¬ n1 = n1' := fun h => heq (by rw [h])
                have hn' := int_ne hn
                have HD := Lib.hid hd; clear hd; have HD' := Lib.hid hd'; clear hd'; have HPRE := Lib.hid hpre; clear hpre; have HNE := Lib.hid hne; clear hne; have HX1 := Lib.hid hx1; clear hx1; have HX1' := Lib.hid hx1'; clear hx1'; have HEQ := Lib.hid heq; clear heq; have HN := Lib.hid hn; clear hn
                go_wp2_with fail
                go_quiet (first | (go_at_call 44; refine Calls.quiet_of (l2SameInts_q xa1 xc1 x1 xa1' xc1' x1 _ (HX1.out.below (by (repeat (first | with_reducible assumption | with_reducible exact Below.refl _ _ | with_reducible refine Below.drew ?_ | with_reducible refine belowDrewN ?_ _ | ((with_reducible refine Below.setCell ?_ ?_ _); rotate_left; focus (first | omega | (simp; done) | (simp; omega))) | ((with_reducible refine Below.alloc ?_ ?_ _); rotate_left; focus (first | omega | (simp; done) | (simp; omega))))))) (HX1'.out.below (by (repeat (first | with_reducible assumption | with_reducible exact Below.refl _ _ | with_reducible refine Below.drew ?_ | with_reducible refine belowDrewN ?_ _ | ((with_reducible refine Below.setCell ?_ ?_ _); rotate_left; focus (first | omega | (simp; done) | (simp; omega))) | ((with_reducible refine Below.alloc ?_ ?_ _); rotate_left; focus (first | omega | (simp; done) | (simp; omega))))))))))
                go_wp2_with fail
                go_ret
                exact ⟨ret_b ((eqBL_not _ _).2 HNE.out).symm, belowDrewN hb _⟩
              · have hk' := int_ne hk
                have HD := Lib.hid hd; clear hd; have HD' := Lib.hid hd'; clear hd'; have HPRE := Lib.hid hpre; clear hpre; have HNE := Lib.hid hne; clear hne; have HX1 := Lib.hid hx1; clear hx1; have HX1' := Lib.hid hx1'; clear hx1'; have HEQ := Lib.hid heq; clear heq; have HK := Lib.hid hk; clear hk
                go_wp2_with fail
                go_quiet (first | (go_at_call 44; refine Calls.quiet_of (l2SameInts_q xa1 xc1 x1 xa1' xc1' x1 _ (HX1.out.below (by (repeat (first | with_reducible assumption | with_reducible exact Below.refl _ _ | with_reducible refine Below.drew ?_ | with_reducible refine belowDrewN ?_ _ | ((with_reducible refine Below.setCell ?_ ?_ _); rotate_left; focus (first | omega | (simp; done) | (simp; omega))) | ((with_reducible refine Below.alloc ?_ ?_ _); rotate_left; focus (first | omega | (simp; done) | (simp; omega))))))) (HX1'.out.below (by (repeat (first | with_reducible assumption | with_reducible exact Below.refl _ _ | with_reducible refine Below.drew ?_ | with_reducible refine belowDrewN ?_ _ | ((with_reducible refine Below.setCell ?_ ?_ _); rotate_left; focus (first | omega | (simp; done) | (simp; omega))) | ((with_reducible refine Below.alloc ?_ ?_ _); rotate_left; focus (first | omega | (simp; done) | (simp; omega))))))))))
                go_wp2_with fail
                go_ret
                exact ⟨ret_b ((eqBL_not _ _).2 HNE.out).symm, belowDrewN hb _⟩
            · have hsx : eqL x1 x1' = false := (eqL_not _ _).2 hx
              by_cases hk : k1 = k1'
              · subst hk
                by_cases hn : n1 = n1'
                · subst hn
                  have HD := Lib.hid hd; clear hd; have HD' := Lib.hid hd'; clear hd'; have HPRE := Lib.hid hpre; clear hpre; have HNE := Lib.hid hne; clear hne; have HX1 := Lib.hid hx1; clear hx1; have HX1' := Lib.hid hx1'; clear hx1'; have HEQ := Lib.hid heq; clear heq; have HX := Lib.hid hx; clear hx
                  go_wp2_with fail
                  go_quiet (first | (go_at_call 44; refine Calls.quiet_of (l2SameInts_q xa1 xc1 x1 xa1' xc1' x1' _ (HX1.out.below (by (repeat (first | with_reducible assumption | with_reducible exact Below.refl _ _ | with_reducible refine Below.drew ?_ | with_reducible refine belowDrewN ?_ _ | ((with_reducible refine Below.setCell ?_ ?_ _); rotate_left; focus (first | omega | (simp; done) | (simp; omega))) | ((with_reducible refine Below.alloc ?_ ?_ _); rotate_left; focus (first | omega | (simp; done) | (simp; omega))))))) (HX1'.out.below (by (repeat (first | with_reducible assumption | with_reducible exact Below.refl _ _ | with_reducible refine Below.drew ?_ | with_reducible refine belowDrewN ?_ _ | ((with_reducible refine Below.setCell ?_ ?_ _); rotate_left; focus (first | omega | (simp; done) | (simp; omega))) | ((with_reducible refine Below.alloc ?_ ?_ _); rotate_left; focus (first | omega | (simp; done) | (simp; omega))))))))))
                  go_wp2_with fail
                  go_ret
                  exact ⟨ret_b ((eqBL_not _ _).2 HNE.out).symm, belowDrewN hb _⟩
                · have hn' := int_ne hn
                  have HD := Lib.hid hd; clear hd; have HD' := Lib.hid hd'; clear hd'; have HPRE := Lib.hid hpre; clear hpre; have HNE := Lib.hid hne; clear hne; have HX1 := Lib.hid hx1; clear hx1; have HX1' := Lib.hid hx1'; clear hx1'; have HEQ := Lib.hid heq; clear heq; have HX := Lib.hid hx; clear hx; have HN := Lib.hid hn; clear hn
                  go_wp2_with fail
                  go_quiet (first | (go_at_call 44; refine Calls.quiet_of (l2SameInts_q xa1 xc1 x1 xa1' xc1' x1' _ (HX1.out.below (by (repeat (first | with_reducible assumption | with_reducible exact Below.refl _ _ | with_reducible refine Below.drew ?_ | with_reducible refine belowDrewN ?_ _ | ((with_reducible refine Below.setCell ?_ ?_ _); rotate_left; focus (first | omega | (simp; done) | (simp; omega))) | ((with_reducible refine Below.alloc ?_ ?_ _); rotate_left; focus (first | omega | (simp; done) | (simp; omega))))))) (HX1'.out.below (by (repeat (first | with_reducible assumption | with_reducible exact Below.refl _ _ | with_reducible refine Below.drew ?_ | with_reducible refine belowDrewN ?_ _ | ((with_reducible refine Below.setCell ?_ ?_ _); rotate_left; focus (first | omega | (simp; done) | (simp; omega))) | ((with_reducible refine Below.alloc ?_ ?_ _); rotate_left; focus (first | omega | (simp; done) | (simp; omega))))))))))
                  go_wp2_with fail
                  go_ret
                  exact ⟨ret_b ((eqBL_not _ _).2 HNE.out).symm, belowDrewN hb _⟩
              · have hk' := int_ne hk
                have HD := Lib.hid hd; clear hd; have HD' := Lib.hid hd'; clear hd'; have HPRE := Lib.hid hpre; clear hpre; have HNE := Lib.hid hne; clear hne; have HX1 := Lib.hid hx1; clear hx1; have HX1' := Lib.hid hx1'; clear hx1'; have HEQ := Lib.hid heq; clear heq; have HX := Lib.hid hx; clear hx; have HK := Lib.hid hk; clear hk
                go_wp2_with fail
                go_quiet (first | (go_at_call 44; refine Calls.quiet_of (l2SameInts_q xa1 xc1 x1 xa1' xc1' x1' _ (HX1.out.below (by (repeat (first | with_reducible assumption | with_reducible exact Below.refl _ _ | with_reducible refine Below.drew ?_ | with_reducible refine belowDrewN ?_ _ | ((with_reducible refine Below.setCell ?_ ?_ _); rotate_left; focus (first | omega | (simp; done) | (simp; omega))) | ((with_reducible refine Below.alloc ?_ ?_ _); rotate_left; focus (first | omega | (simp; done) | (simp; omega))))))) (HX1'.out.below (by (repeat (first | with_reducible assumption | with_reducible exact Below.refl _ _ | with_reducible refine Below.drew ?_ | with_reducible refine belowDrewN ?_ _ | ((with_reducible refine Below.setCell ?_ ?_ _); rotate_left; focus (first | omega | (simp; done) | (simp; omega))) | ((with_reducible refine Below.alloc ?_ ?_ _); rotate_left; focus (first | omega | (simp; done) | (simp; omega))))))))))
                go_wp2_with fail
                go_ret
                exact ⟨ret_b ((eqBL_not _ _).2 HNE.out).symm, belowDrewN hb _⟩
          · have hs' := ba_ne hs
            have HD := Lib.hid hd; clear hd; have HD' := Lib.hid hd'; clear hd'; have HPRE := Lib.hid hpre; clear hpre; have HNE := Lib.hid hne; clear hne; have HX1 := Lib.hid hx1; clear hx1; have HX1' := Lib.hid hx1'; clear hx1'; have HEQ := Lib.hid heq; clear heq; have HS := Lib.hid hs; clear hs
            go_wp2_with fail
            go_quiet (first | (go_at_call 44; refine Calls.quiet_of (l2SameInts_q xa1 xc1 x1 xa1' xc1' x1' _ (HX1.out.below (by (repeat (first | with_reducible assumption | with_reducible exact Below.refl _ _ | with_reducible refine Below.drew ?_ | with_reducible refine belowDrewN ?_ _ | ((with_reducible refine Below.setCell ?_ ?_ _); rotate_left; focus (first | omega | (simp; done) | (simp; omega))) | ((with_reducible refine Below.alloc ?_ ?_ _); rotate_left; focus (first | omega | (simp; done) | (simp; omega))))))) (HX1'.out.below (by (repeat (first | with_reducible assumption | with_reducible exact Below.refl _ _ | with_reducible refine Below.drew ?_ | with_reducible refine belowDrewN ?_ _ | ((with_reducible refine Below.setCell ?_ ?_ _); rotate_left; focus (first | omega | (simp; done) | (simp; omega))) | ((with_reducible refine Below.alloc ?_ ?_ _); rotate_left; focus (first | omega | (simp; done) | (simp; omega))))))))))
            go_wp2_with fail
            go_ret
            exact ⟨ret_b ((eqBL_not _ _).2 HNE.out).symm, belowDrewN hb _⟩
      · go_wp2_with fail
        go_ret
        have hj2 : j = ms.length := by omega
        subst hj2
        refine ⟨ret_b ((eqBL_iff _ _).2 ?_).symm, hb⟩
        have hpre' := hpre
        rwa [HLN.out, List.take_length, ← HLN.out, HL.out, HLN'.out, List.take_length] at hpre'
  · have hl' : ((ms.length : Int) != (ms'.length : Int)) = true := by simp; omega
    have HIN := Lib.hid hin; clear hin; have HI := Lib.hid hi; clear hi; have HIN' := Lib.hid hin'; clear hin'; have HI' := Lib.hid hi'; clear hi'; have HLN := Lib.hid hln; clear hln; have HLN' := Lib.hid hln'; clear hln'; have HL := Lib.hid hl; clear hl
    go_enter Try.func11, Try.ntmps11
    go_wp2_with fail
    go_ret
    exact ⟨ret_b ((eqBL_not _ _).2 (by intro e; exact HL.out (by rw [HLN.out, HLN'.out, e]))).symm, by (repeat (first | with_reducible assumption | with_reducible exact Below.refl _ _ | with_reducible refine Below.drew ?_ | with_reducible refine belowDrewN ?_ _ | ((with_reducible refine Below.setCell ?_ ?_ _); rotate_left; focus (first | omega | (simp; done) | (simp; omega))) | ((with_reducible refine Below.alloc ?_ ?_ _); rotate_left; focus (first | omega | (simp; done) | (simp; omega)))))⟩
end Go.Proofs.Ytghbnehocggnnaa

/-
  Walks: a row of one binding written out; what is drawn afresh; the law's own helpers. No condition.
-/
set_option linter.unusedVariables false
set_option linter.unusedSimpArgs false
set_option maxRecDepth 100000
namespace Go.Proofs.Ytghbnehocggnnaa
open Go.RowKit

theorem boxHere (w : World) (o : Obj) : (w.alloc o).heap[w.heap.size]? = some o := by
  show (w.heap.push o)[w.heap.size]? = _
  simp
/-- a row of one binding, at a block of its own -/
theorem lit_in {W : World} {p : Nat} {s : ByteArray} {x : List Int} {k n : Int} {xa : Option Addr} {xc : Nat} (h : W.heap[p]? = some (.cells #[.string s, .slice xa x.length xc, .int .i64 k, .int .i64 n] 33)) (hx : (M.sl xa xc 1 3 (intM x)).In W) :
    (M.sl (some ⟨p, 0, none⟩) 1 4 33 [bndM s xa xc x k n]).In W := by
  refine ⟨⟨⟨by simp [M.cellsL, bndM_cells], by decide, by simp, by simp [maxLen], by simp, fun ad had j u hu => ?_⟩, by simp [bndM_cells]⟩, ⟨⟨trivial, hx, trivial, trivial, trivial⟩, trivial⟩⟩
  obtain rfl := Option.some.inj had
  rw [addr_add, Nat.zero_add]
  unfold World.cell?
  rw [h]
  simp only [M.cellsL, List.append_nil, bndM_cells] at hu
  simpa using hu
/-- two rows of one binding each -/
theorem eqLit_calls (s : ByteArray) (x : List Int) (k n : Int) (xa : Option Addr) (xc : Nat) (s' : ByteArray) (x' : List Int) (k' n' : Int) (xa' : Option Addr) (xc' : Nat) (p q : Nat) (W : World)
    (hp : W.heap[p]? = some (.cells #[.string s, .slice xa x.length xc, .int .i64 k, .int .i64 n] 33)) (hx : (M.sl xa xc 1 3 (intM x)).In W)
    (hq : W.heap[q]? = some (.cells #[.string s', .slice xa' x'.length xc', .int .i64 k', .int .i64 n'] 33)) (hx' : (M.sl xa' xc' 1 3 (intM x')).In W) :
    Calls Try.prog 11 #[.slice (some ⟨p, 0, none⟩) 1 1, .slice (some ⟨q, 0, none⟩) 1 1] W (Ret (.bool (eqBL [.mk s x k n] [.mk s' x' k' n'])) W) :=
  sEqualBindings_calls [.mk s x k n] _ 1 [bndM s xa xc x k n] [.mk s' x' k' n'] _ 1 [bndM s' xa' xc' x' k' n'] W (Bnd.IsL.one _ _ _ _ _ _) (lit_in hp hx) (Bnd.IsL.one _ _ _ _ _ _) (lit_in hq hx')
end Go.Proofs.Ytghbnehocggnnaa

/-
  Walks: bytes drawn afresh; three things drawn. Plain law: an identifier that is bound. No condition.
-/
set_option linter.unusedVariables false
set_option linter.unusedSimpArgs false
set_option maxRecDepth 100000
namespace Go.Proofs.Ytghbnehocggnnaa
open Go.RowKit

theorem infoU8 : (Try.prog.info? 5).map (fun i => (i.zero, i.size, i.bytes)) = some (some (.int .u8 0), 1, 1) := by kernel_rfl
theorem u8M_snoc (l : List Int) (z : Int) : u8M l ++ [.c (.int .u8 z)] = u8M (l ++ [z]) := by simp [u8M]
/-- append(out, byte) at a row of bytes of one's own -/
theorem wpU8_push {ops : Array Oper} {rest : List Oper} {o : Oper} {act : Act} {Q : Exit → Act → World → Prop} {W : World} (hgd : o.guard = none) (s x : Operand) (ho : o.op = .call { callee := .builtin .append, args := #[s, x], argTypes := #[22, 22] })
    (lo : Nat) (a : Option Addr) (cap : Nat) (l : List Int) (hs : act.eval s = .slice a l.length cap) (h : (M.sl a cap 1 5 (u8M l)).Mine W lo) (hlo : lo ≤ W.heap.size) (z : Int) (hx : act.eval x = .slice (some ⟨W.heap.size, 0, none⟩) 1 1) (hB : l.length ≤ 100000) (n' : Nat) (hn : n' = l.length + 1)
    (k : ∀ a' cap' w', (M.sl a' cap' 1 5 (u8M (l ++ [z]))).Mine w' lo → Below lo W w' → W.heap.size ≤ w'.heap.size → wpList Try.prog ops Q rest (act.put o.dst (.slice a' n' cap')) w') : wpList Try.prog ops Q (o :: rest) act (W.alloc (.cells #[.int .u8 z] 5)) := by
  subst hn
  refine wpList_push4 (wr := W) (w1 := W) hgd s x 22 ho 5 (.int .u8 0) 1 1 Try.underlying22 infoU8 rfl (by decide) lo a cap (u8M l) (by rw [u8M_length]; exact hs) h hlo (Nat.le_refl _) (fun _ _ _ => rfl) #[.int .u8 z] (.c (.int .u8 z)) rfl rfl W.heap.size (M.Mine.c rfl) (Nat.le_refl _) hx (by rw [u8M_length]; unfold maxLen; omega) (by rw [u8M_length]; omega) ?_
  intro a' cap' w' h1 h2 h3 _
  rw [u8M_snoc] at h1
  rw [u8M_length]
  exact k a' cap' w' h1 h2 h3
/-- bytes of one's own are handed back -/
def RetU8 (w : World) (e : Ending) (w' : World) : Prop := ∃ (a : Option Addr) (cap : Nat) (l : List Int), e = .returned (.slice a l.length cap) ∧ (M.sl a cap 1 5 (u8M l)).Mine w' w.heap.size ∧ (∀ z ∈ l, 0 ≤ z ∧ z ≤ 255) ∧ l.length ≤ 601 ∧ Below w.heap.size w w'
set_option maxHeartbeats 4000000 in
theorem fresh_calls (a : Option Addr) (cap : Nat) (l : List Int) (w : World) (hin : (M.sl a cap 1 5 (u8M l)).In w) (hu : ∀ z ∈ l, 0 ≤ z ∧ z ≤ 255) :
    Calls Try.prog 14 #[.slice a l.length cap, .int .i64 3] w (RetU8 w) := by
  have hl := U8s.len hin
  have hm1 := M.Mine.new (w := w) (lo := w.heap.size) (n := 1) (sz := 1) (e := 5) (cs := #[.int .u8 3]) (xs := u8M [3]) rfl (Nat.le_refl _) rfl (by decide) (fun x hx => by simp [u8M] at hx; subst hx; rfl) (by decide) ⟨⟨rfl, trivial⟩, by simp [u8M, M.blocksL, M.blocks]⟩
  have HIN := Lib.hid hin; clear hin; have HU := Lib.hid hu; clear hu; have HM1 := Lib.hid hm1; clear hm1
  go_enter Try.func14, Try.ntmps14
  go_wp2_with fail
  go_loopw [5, 6] (fun t i wr => ∃ (j : Nat) (a' : Option Addr) (cap' : Nat) (l' : List Int), i = .int .i64 j ∧ j ≤ 600 ∧ j ≤ l.length ∧ t = .slice a' l'.length cap' ∧ l'.length = j + 1 ∧ (∀ z ∈ l', 0 ≤ z ∧ z ≤ 255) ∧ (M.sl a' cap' 1 5 (u8M l')).Mine wr w.heap.size ∧ Below w.heap.size w wr ∧ w.heap.size ≤ wr.heap.size) (fun _ i _ => l.length - (intOf i).toNat)
  case atStart => exact ⟨0, _, _, [3], rfl, by omega, by omega, rfl, rfl, (by simp), HM1.out, by (repeat (first | with_reducible assumption | with_reducible exact Below.refl _ _ | with_reducible refine Below.drew ?_ | with_reducible refine belowDrewN ?_ _ | ((with_reducible refine Below.setCell ?_ ?_ _); rotate_left; focus (first | omega | (simp; done) | (simp; omega))) | ((with_reducible refine Below.alloc ?_ ?_ _); rotate_left; focus (first | omega | (simp; done) | (simp; omega))))), by simp⟩
  case round =>
    obtain ⟨j, a', cap', l', rfl, hj6, hj, rfl, hll, hr, hm, hb, hsz⟩ := hrel
    by_cases hlt : j < l.length
    · by_cases h6 : j < 600
      · obtain ⟨b, off, z, rfl, hz, hc⟩ := U8s.elem (HIN.out.below hb) j hlt
        have hzr := HU.out z (List.mem_of_getElem? hz)
        have hz0 := hzr.1
        have hz1 := hzr.2
        have hrem : IntKind.i64.wrap ((j : Int).tmod 7) = (j : Int) % 7 := by rw [Int.tmod_eq_emod_of_nonneg (by omega), IntKind.wrap_i64]; omega
        have hlt' : (j : Int) < (l.length : Int) := by omega
        have h6' : (j : Int) < 600 := by omega
        have HZ := Lib.hid hz; clear hz; have HM := Lib.hid hm; clear hm; have HR := Lib.hid hr; clear hr; have HZR := Lib.hid hzr; clear hzr; have HLL := Lib.hid hll; clear hll
        go_wp2_with (at_builtin; refine wpU8_push (W := wr) rfl _ _ rfl w.heap.size a' cap' l' rfl HM.out hsz _ rfl (by have := HLL.out; omega) (j + 2) (by have := HLL.out; omega) ?_)
        intro a3 cap3 w3 hm3 hb3 hz3
        have hlen3 : ∀ y : Int, (l' ++ [y]).length = j + 2 := fun y => by have := HLL.out; simp; omega
        have HM3 := Lib.hid hm3; clear hm3; have HLEN3 := Lib.hid hlen3; clear hlen3
        go_wp2_with fail
        go_roundw
        case rel => exact ⟨j + 1, a3, cap3, l' ++ [_], by go_num, by omega, by omega, by rw [HLEN3.out], by rw [HLEN3.out], fun y hy => (by
          rcases List.mem_append.1 hy with h1 | h1
          · exact HR.out y h1
          · simp only [List.mem_singleton] at h1; subst h1; first | omega | (rw [IntKind.wrap_u8]; omega)), HM3.out, by (repeat (first | with_reducible assumption | with_reducible exact Below.refl _ _ | with_reducible refine Below.drew ?_ | with_reducible refine belowDrewN ?_ _ | ((with_reducible refine Below.setCell ?_ ?_ _); rotate_left; focus (first | omega | (simp; done) | (simp; omega))) | ((with_reducible refine Below.alloc ?_ ?_ _); rotate_left; focus (first | omega | (simp; done) | (simp; omega))) | ((with_reducible refine Below.trans ?_ (Below.mono hb ?_)); rotate_left; focus (first | omega | (simp; done) | (simp; omega))) | ((with_reducible refine Below.trans ?_ (Below.mono hb3 ?_)); rotate_left; focus (first | omega | (simp; done) | (simp; omega))))), by omega⟩
        case measure => simp [intOf]; omega
      · have h6' : ¬ (j : Int) < 600 := by omega
        have HM := Lib.hid hm; clear hm; have HR := Lib.hid hr; clear hr; have HLL := Lib.hid hll; clear hll
        go_wp2_with fail
        go_ret
        exact ⟨a', cap', l', rfl, HM.out, HR.out, by have := HLL.out; omega, hb⟩
    · have HM := Lib.hid hm; clear hm; have HR := Lib.hid hr; clear hr; have HLL := Lib.hid hll; clear hll
      go_wp2_with fail
      go_ret
      exact ⟨a', cap', l', rfl, HM.out, HR.out, by have := HLL.out; omega, hb⟩
/-- what DrawSameMeaning hands back, so far as it is used: the first identifier -/
def RetTII (w : World) (e : Ending) (w' : World) : Prop :=
  ∃ (ba : Option Addr) (bl bc : Nat) (k n : Int) (s : ByteArray) (x : List Int) (ds : List Syn) (xa : Option Addr) (xc : Nat) (a' : Option Addr) (cap' : Nat) (ms : List M) (k2 n2 : Int) (s2 : ByteArray) (xa2 : Option Addr) (xl2 xc2 : Nat) (ia2 : Option Addr) (il2 ic2 : Nat),
    e = .returned (.tuple #[.slice ba bl bc, .agg #[.int .i64 k, .int .i64 n, .string s, .slice xa x.length xc, .slice a' ms.length cap'], .agg #[.int .i64 k2, .int .i64 n2, .string s2, .slice xa2 xl2 xc2, .slice ia2 il2 ic2]]) ∧
    Syn.IsL 27 ds ms ∧ (SynOwn 27 xa xc x a' cap' ms).Mine w' w.heap.size ∧ (Syn.mk k n s x ds).wf3 ∧ 1 + Syn.countL ds ≤ 400 ∧ Below w.heap.size w w'
set_option maxHeartbeats 4000000 in
theorem drawSameMeaning_calls (a : Option Addr) (cap : Nat) (l : List Int) (w : World) (hin : (M.sl a cap 1 5 (u8M l)).In w) (hu : ∀ z ∈ l, 0 ≤ z ∧ z ≤ 255) (hlen : l.length ≤ 1048576) :
    Calls Try.prog 13 #[.slice a l.length cap] w (RetTII w) := by
  have HIN := Lib.hid hin; clear hin; have HU := Lib.hid hu; clear hu
  go_enter Try.func13, Try.ntmps13
  go_wp2_with fail
  refine (l01New_calls a cap l _ (HIN.out.below (by (repeat (first | with_reducible assumption | with_reducible exact Below.refl _ _ | with_reducible refine Below.drew ?_ | with_reducible refine belowDrewN ?_ _ | ((with_reducible refine Below.setCell ?_ ?_ _); rotate_left; focus (first | omega | (simp; done) | (simp; omega))) | ((with_reducible refine Below.alloc ?_ ?_ _); rotate_left; focus (first | omega | (simp; done) | (simp; omega))))))) HU.out hlen).mono ?_
  rintro e w1 ⟨pb, rfl, hpb, hc1, hb1⟩
  have hz1 := hb1.size
  simp only [World.size_alloc] at hz1 hpb
  have hp1 := hc1.lt
  have hr1 : SBox w.heap.size 0 0 ⟨#[]⟩ (.slice none 0 0) (.slice none 0 0) w1 := ((SBox.new 0 0 ⟨#[]⟩ (.slice none 0 0) (.slice none 0 0) w).of (heapNew _ _ _ (by simp))).below hb1 (by simp; omega)
  have hq1 : SBox (w.heap.size + 1) 0 0 ⟨#[]⟩ (.slice none 0 0) (.slice none 0 0) w1 := by
    have h := (SBox.new 0 0 ⟨#[]⟩ (.slice none 0 0) (.slice none 0 0) (w.alloc (.cells #[.int .i64 0, .int .i64 0, .string ⟨#[]⟩, .slice none 0 0, .slice none 0 0] 27))).below hb1 (by simp); simpa using h
  have hbw1 : Below w.heap.size w w1 := by (repeat (first | with_reducible assumption | with_reducible exact Below.refl _ _ | with_reducible refine Below.drew ?_ | with_reducible refine belowDrewN ?_ _ | ((with_reducible refine Below.setCell ?_ ?_ _); rotate_left; focus (first | omega | (simp; done) | (simp; omega))) | ((with_reducible refine Below.alloc ?_ ?_ _); rotate_left; focus (first | omega | (simp; done) | (simp; omega))) | ((with_reducible refine Below.trans ?_ (Below.mono hb1 ?_)); rotate_left; focus (first | omega | (simp; done) | (simp; omega)))))
  clear hb1
  have HC1 := Lib.hid hc1; clear hc1; have HR1 := Lib.hid hr1; clear hr1; have HQ1 := Lib.hid hq1; clear hq1; have HBW1 := Lib.hid hbw1; clear hbw1
  go_wp2_with fail
  refine (l3Table_calls pb a cap l _ HC1.out).mono ?_
  rintro e w2 ⟨bs, ba, bc, bms, rfl, hbl, hbi, hbm, hbwf, hc2, ho2⟩
  have hz2 := ho2.size
  clear hbi hbm hbwf hbl
  have HC2 := Lib.hid hc2; clear hc2; have HO2 := Lib.hid ho2; clear ho2
  go_wp2_with fail
  refine (l3Id_calls pb a cap l _ HC2.out).mono ?_
  rintro e w3 ⟨k, n, s, x, ds, xa, xc, a3, c3, ms3, rfl, hi3, hm3, hw3, hct3, hc3, ho3⟩
  have hz3 := ho3.size
  have HI3 := Lib.hid hi3; clear hi3; have HM3 := Lib.hid hm3; clear hm3; have HW3 := Lib.hid hw3; clear hw3; have HC3 := Lib.hid hc3; clear hc3; have HO3 := Lib.hid ho3; clear ho3
  go_wp2_with fail
  refine (l3Id_calls pb a cap l _ HC3.out).mono ?_
  rintro e w4 ⟨k4, n4, s4, x4, ds4, xa4, xc4, a4, c4, ms4, rfl, hi4, hm4, hw4, hct4, hc4, ho4⟩
  have hz4 := ho4.size
  have ho14 := (HO2.out.trans HO3.out).trans ho4
  obtain ⟨r0, r1, r2, r3, r4, g0, g1, g2, g3, g4⟩ := HR1.out.only ho14 (.inl (by omega))
  obtain ⟨q0, q1, q2, q3, q4, f0, f1, f2, f3, f4⟩ := HQ1.out.only ho14 (.inl (by omega))
  have hret : RetTII w (.returned (.tuple #[.slice ba bms.length bc, .agg #[.int .i64 k, .int .i64 n, .string s, .slice xa x.length xc, .slice a3 ms3.length c3], .agg #[.int .i64 k4, .int .i64 n4, .string s4, .slice xa4 x4.length xc4, .slice a4 ms4.length c4]]))
      (setCells (setCells w4 w.heap.size 0 [.int .i64 k, .int .i64 n, .string s, .slice xa x.length xc, .slice a3 ms3.length c3]) (w.heap.size + 1) 0 [.int .i64 k4, .int .i64 n4, .string s4, .slice xa4 x4.length xc4, .slice a4 ms4.length c4]) := by
    have ho5 := setCells_Only (w.heap.size + 1) (bs := [w.heap.size, w.heap.size + 1]) (by simp) [.int .i64 k4, .int .i64 n4, .string s4, .slice xa4 x4.length xc4, .slice a4 ms4.length c4] _ 0 (setCells_Only w.heap.size (bs := [w.heap.size, w.heap.size + 1]) (by simp) [.int .i64 k, .int .i64 n, .string s, .slice xa x.length xc, .slice a3 ms3.length c3] w4 0 (Only.refl _ w4))
    have hm34 := HM3.out.keep (w' := w4) (fun b h1 h2 => ho4.block b h2 (.inr (by omega)))
    exact ⟨ba, bms.length, bc, k, n, s, x, ds, xa, xc, a3, c3, ms3, k4, n4, s4, xa4, x4.length, xc4, a4, ms4.length, c4, rfl,
      HI3.out, M.Mine.mono (hm34.only ho5 fun b hb hn => by have := (hm34.lt b hb).1; simp at hn; omega) (by omega), HW3.out, hct3, (HBW1.out.trans (ho14.below (by omega) (by omega))).trans (ho5.below (by omega) (by simp))⟩
  simp only [setCells, Nat.zero_add, Nat.reduceAdd] at hret
  clear hi4 hm4 hw4 hct4 hc4 ho4 ho14
  have HRET := Lib.hid hret; clear hret
  go_wp2_with fail
  refine bodyPost_ret (v := .tuple #[.slice ba bms.length bc, .agg #[.int .i64 k, .int .i64 n, .string s, .slice xa x.length xc, .slice a3 ms3.length c3], .agg #[.int .i64 k4, .int .i64 n4, .string s4, .slice xa4 x4.length xc4, .slice a4 ms4.length c4]]) (by simp [results, Try.results13, go_sem, r0, r1, r2, r3, r4, q0, q1, q2, q3, q4]) rfl ?_
  exact HRET.out
/-- an identifier's name and scopes make a binding -/
theorem isId_bndOk {k n : Int} {s : ByteArray} {x : List Int} {es : List Syn} (h : isIdB k n s x es = true) : bndOk s x 3 77777 = true ∧ Asc x := by
  unfold isIdB at h
  obtain ⟨h1, h2⟩ := Bool.and_eq_true_iff.1 h
  obtain ⟨-, -, h3⟩ := isSynB_iff.1 h2
  have hk : k = 1 := by simpa using h1
  subst hk
  obtain ⟨h4, h5, -⟩ := h3
  have h6 : isSymB s = true := by
    unfold nodeB at h4
    simp only [show ¬ (1 : Int) = 0 by decide, if_false, if_true] at h4
    exact (Bool.and_eq_true_iff.1 (Bool.and_eq_true_iff.1 h4).2).1
  have h7 : ssB x = true := (Bool.and_eq_true_iff.1 h5).1
  refine ⟨?_, (ssB_iff _).1 h7⟩
  rw [bndOk_n h6 h7]
  simp [inB, mostOf]
/-- a valid binding is added to valid ones: they are valid, and the identifier is found -/
theorem bound_more {k n : Int} {s : ByteArray} {x : List Int} {es : List Syn} {ds : List Bnd} (hA : areB ds = true) (hI : isIdB k n s x es = true) (hl : ds.length < 1000) (hc : clashB ds s x = false) :
    addOk ds s x 3 77777 = true ∧ areB (ds ++ [.mk s x 3 77777]) = true ∧ resB s x (ds ++ [.mk s x 3 77777]) = (.mk s x 3 77777, 1) := by
  obtain ⟨h1, h2⟩ := isId_bndOk hI
  obtain ⟨-, h3⟩ := areB_iff.1 hA
  have h4 : ¬ Clash ds s x := by
    intro h; rw [clashB_yes h] at hc; cases hc
  refine ⟨?_, areB_iff.2 ⟨by simp; omega, Good_snoc h3 h1 h4⟩, resB_new h3 h2 h4⟩
  unfold addOk
  rw [hA, h1, hc]
  simp [hl]
theorem bound_not {k n : Int} {s : ByteArray} {x : List Int} {ds : List Bnd} (hc : clashB ds s x = true) : addOk ds s x k n = false := by
  unfold addOk; rw [hc]; simp
theorem mean_same {s : ByteArray} {x : List Int} {ds : List Bnd} (h : (resB s x ds).2 = 1) : meanB s x s x ds = true := by
  unfold meanB
  rw [if_pos ⟨h, h⟩]
  simp
theorem bwfL_snoc : ∀ {ds : List Bnd} {d : Bnd}, Bnd.wfL ds → d.wf → Bnd.wfL (ds ++ [d])
  | [], d, _, h => ⟨h, trivial⟩
  | x :: r, d, h1, h => ⟨h1.1, bwfL_snoc h1.2 h⟩
/-- one binding more: an identifier resolves as before, or there is no greatest set, or the new one is found -/
theorem resG_more {ds : List Bnd} {s : ByteArray} {x : List Int} {k n : Int} (hA : areB ds = true) (hA2 : areB (ds ++ [.mk s x k n]) = true) (o : Bool) (s' : ByteArray) (x' : List Int) :
    resG (areB (ds ++ [.mk s x k n]) && o) s' x' (ds ++ [.mk s x k n]) = resG (areB ds && o) s' x' ds ∨ (resG (areB (ds ++ [.mk s x k n]) && o) s' x' (ds ++ [.mk s x k n])).2 = 2 ∨ resG (areB (ds ++ [.mk s x k n]) && o) s' x' (ds ++ [.mk s x k n]) = (.mk s x k n, 1) := by
  rw [hA, hA2]
  cases o with
  | false => exact .inl rfl
  | true => exact resB_snoc s' x' ds (.mk s x k n)
theorem clash_clashB {ds : List Bnd} {s : ByteArray} {x : List Int} (h : clashB ds s x = true) : Clash ds s x := by
  by_cases hc : Clash ds s x
  · exact hc
  · rw [clashB_no hc] at h; cases h
end Go.Proofs.Ytghbnehocggnnaa
