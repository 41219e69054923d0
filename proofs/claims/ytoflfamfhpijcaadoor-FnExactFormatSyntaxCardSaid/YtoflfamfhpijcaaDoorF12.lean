/-
  Walks: the program's text of a piece of syntax. Condition: the library's table of powers of ten reads as laid. (printed by wip/tools/mkf12.py)
-/
import Derived.Test.YtoflfamfhpijcaaDoorF11
set_option linter.unusedVariables false
set_option linter.unusedSimpArgs false
set_option maxRecDepth 100000
namespace Go.Proofs.YtoflfamfhpijcaaDoor
open Go.RowKit

def WsSs (ds : List Syn) : Prop := ∀ (k n : Int) (s : ByteArray) (x : List Int) (xa : Option Addr) (xc : Nat) (a : Option Addr) (cap : Nat) (ms : List M) (l : List UInt8) (v : Value) (w0 w : World), (Syn.mk k n s x ds).wf → (Syn.mk k n s x ds).ok → s.size + (x.length + (ds.length + Syn.wtX ds)) ≤ 2000000 → l.length + 60 * (s.size + (x.length + (ds.length + Syn.wtX ds))) + 100 ≤ 1000000000000 → Syn.IsL 69 ds ms → (M.sl xa xc 1 3 (intM x)).In w0 → (M.sl a cap 5 69 ms).In w0 →
    Bts w0.heap.size w v l → Below w0.heap.size w0 w → Tab w0.heap.size w0 →
    Calls Tryd.prog 85 #[v, .agg #[.int .i64 k, .int .i64 n, .string s, .slice xa x.length xc, .slice a ms.length cap]] w (RetB w0.heap.size (l ++ fmtS (.mk k n s x ds)) w)
set_option maxHeartbeats 2000000 in
theorem writeSyntax_calls : ∀ ds, WsSs ds := by
  refine Syn.inductL fun ds ih => ?_
  intro k n s x xa xc a cap ms l v w0 w hwf hok hW hB hi hx hin ho hb0 hT
  have hl := hi.length
  have hcap := hin.len
  have hxl := Ints.len hx
  have hz0 := hb0.size
  have hwd : I64 k ∧ I64 n ∧ s.size ≤ 9223372036854775807 ∧ (∀ z ∈ x, I64 z) ∧ Syn.wfL ds := hwf
  have hitems := (Syn.ok_mk.1 hok).2.2
  have hbx : SBox w.heap.size k n s (.slice xa x.length xc) (.slice a ms.length cap) (w.alloc (.cells #[.int .i64 k, .int .i64 n, .string s, .slice xa x.length xc, .slice a ms.length cap] 69)) := SBox.new _ _ _ _ _ _
  have hhp : (w.alloc (.cells #[.int .i64 k, .int .i64 n, .string s, .slice xa x.length xc, .slice a ms.length cap] 69)).heap[w.heap.size]? = some (.cells #[.int .i64 k, .int .i64 n, .string s, .slice xa x.length xc, .slice a ms.length cap] 69) := heapBox _ _
  have hA := (Kb.refl w0.heap.size w).alloc hz0 (.cells #[.int .i64 k, .int .i64 n, .string s, .slice xa x.length xc, .slice a ms.length cap] 69)
  have hoA := ho.alloc (.cells #[.int .i64 k, .int .i64 n, .string s, .slice xa x.length xc, .slice a ms.length cap] 69)
  have IH := Lib.hid ih; clear ih; have HIN := Lib.hid hin; clear hin; have HI := Lib.hid hi; clear hi; have HX := Lib.hid hx; clear hx; have HL := Lib.hid hl; clear hl; have HWF := Lib.hid hwf; clear hwf; have HWD := Lib.hid hwd; clear hwd; have HO := Lib.hid ho; clear ho; have HT := Lib.hid hT; clear hT; have HBX := Lib.hid hbx; clear hbx; have HHP := Lib.hid hhp; clear hhp; have HA := Lib.hid hA; clear hA; have HOA := Lib.hid hoA; clear hoA; have HITEMS := Lib.hid hitems; clear hitems
  by_cases hk : k = 0
  · subst hk
    have hf := fmtS_list n s x ds
    have HF := Lib.hid hf; clear hf; have HOK := Lib.hid hok; clear hok
    go_enter Tryd.func85, Tryd.ntmps85
    go_wp2_with (at_builtin; refine wpBts_byte rfl _ _ rfl w0.heap.size v l rfl HOA.out 40 40 rfl (by first | rfl | (simp [go_sem]; done)) (by omega) (by simp; omega) (l ++ [40]) rfl ?_)
    intro v3 w3 h3 hk3
    have hz3 := hk3.size
    simp only [World.size_alloc] at hz3
    obtain ⟨q0, q1, q2, q3, q4, f0, f1, f2, f3, f4⟩ := hk3.sbox HHP.out HBX.out
    have hk4 := HA.out.trans hk3
    have H3 := Lib.hid h3; clear h3; have HK3 := Lib.hid hk3; clear hk3; have HK4 := Lib.hid hk4; clear hk4
    go_wp2_with fail
    go_loopw [0, 5, 28] (fun o u i wr => ∃ (j : Nat) (v' : Value), j ≤ ms.length ∧ i = .int .i64 j ∧ v' = o ∧ Bts w0.heap.size wr v' (l ++ 40 :: joinB [32] (fmtSL (ds.take j))) ∧ Kb w0.heap.size w wr) (fun _ _ i _ => ms.length - (intOf i).toNat)
    case atStart => exact ⟨0, v3, Nat.zero_le _, rfl, rfl, by simpa [fmtSL, joinB] using H3.out, HK4.out⟩
    case round =>
      obtain ⟨j, v', hj, rfl, rfl, hbt, hkk⟩ := hrel
      have hzk := hkk.size
      by_cases hlt : j < ms.length
      · obtain ⟨bb, off, k1, n1, s1, x1, ds1, xa1, xc1, a1, cap1, ms1, rfl, hd, hi1, hx1, hin1, c0, c1, c2, c3, c4⟩ := Syn.elem HIN.out HI.out j hlt
        have hbl := World.block_lt_of_cell? w0 _ c0
        simp only at hbl
        have hbw : Below w0.heap.size w0 wr := hb0.trans hkk.1
        have g0 := (hbw.cell (p := ⟨bb, _, none⟩) hbl).trans c0
        have g1 := (hbw.cell (p := ⟨bb, _, none⟩) hbl).trans c1
        have g2 := (hbw.cell (p := ⟨bb, _, none⟩) hbl).trans c2
        have g3 := (hbw.cell (p := ⟨bb, _, none⟩) hbl).trans c3
        have g4 := (hbw.cell (p := ⟨bb, _, none⟩) hbl).trans c4
        clear c0 c1 c2 c3 c4
        have hmem := List.mem_of_getElem? hd
        have hwt := Syn.wtX_pre hd
        have hjl := joinB_length [32] (fmtSL (ds.take j))
        have hsum := fmtS_wt (ds.take j) (Syn.wfL_take HWD.out.2.2.2.2 j)
        have htl : (ds.take j).length ≤ j := by simp; omega
        simp only [Syn.wt] at hwt
        simp only [List.length_singleton] at hjl
        have hlds := HL.out
        have hll : (l ++ 40 :: joinB [32] (fmtSL (ds.take j))).length = l.length + 1 + (joinB [32] (fmtSL (ds.take j))).length := by simp; omega
        have hwf1 := Syn.wfL_get HWD.out.2.2.2.2 hd
        have hnx : SBox wr.heap.size k1 n1 s1 (.slice xa1 x1.length xc1) (.slice a1 ms1.length cap1) (wr.alloc (.cells #[.int .i64 k1, .int .i64 n1, .string s1, .slice xa1 x1.length xc1, .slice a1 ms1.length cap1] 69)) := SBox.new _ _ _ _ _ _
        have hnp : (wr.alloc (.cells #[.int .i64 k1, .int .i64 n1, .string s1, .slice xa1 x1.length xc1, .slice a1 ms1.length cap1] 69)).heap[wr.heap.size]? = some (.cells #[.int .i64 k1, .int .i64 n1, .string s1, .slice xa1 x1.length xc1, .slice a1 ms1.length cap1] 69) := heapBox _ _
        have hkA := hkk.alloc (by omega) (.cells #[.int .i64 k1, .int .i64 n1, .string s1, .slice xa1 x1.length xc1, .slice a1 ms1.length cap1] 69)
        have hbA := hbt.alloc (.cells #[.int .i64 k1, .int .i64 n1, .string s1, .slice xa1 x1.length xc1, .slice a1 ms1.length cap1] 69)
        by_cases hj0 : j = 0
        · subst hj0
          have hst := fmtS_step0 l hd
          simp only [Nat.zero_mul, Nat.add_zero] at g0 g1 g2 g3 g4
          have HD := Lib.hid hd; clear hd; have HI1 := Lib.hid hi1; clear hi1; have HX1 := Lib.hid hx1; clear hx1; have HIN1 := Lib.hid hin1; clear hin1; have HBT := Lib.hid hbt; clear hbt; have HMEM := Lib.hid hmem; clear hmem; have HKK := Lib.hid hkk; clear hkk; have HWT := Lib.hid hwt; clear hwt; have HJL := Lib.hid hjl; clear hjl; have HSUM := Lib.hid hsum; clear hsum; have HTL := Lib.hid htl; clear htl; have HLDS := Lib.hid hlds; clear hlds; have HLL := Lib.hid hll; clear hll; have HWF1 := Lib.hid hwf1; clear hwf1; have HNX := Lib.hid hnx; clear hnx; have HNP := Lib.hid hnp; clear hnp; have HKA := Lib.hid hkA; clear hkA; have HBA := Lib.hid hbA; clear hbA; have HST := Lib.hid hst; clear hst; have HBW := Lib.hid hbw; clear hbw
          go_wp2_with fail
          refine (IH.out k1 n1 s1 x1 ds1 HMEM.out k1 n1 s1 x1 xa1 xc1 a1 cap1 ms1 _ v' w0 _ HWF1.out (HITEMS.out _ HMEM.out) (by have := HWT.out; omega) (by have := HWT.out; have := HLL.out; have := HJL.out; have := HSUM.out; have := HTL.out; have := HLDS.out; omega) HI1.out HX1.out HIN1.out HBA.out (HBW.out.trans (Below.alloc (Below.refl _ _) (by omega) _)) HT.out).mono ?_
          rintro e w9 ⟨v9, rfl, h9, hk9⟩
          have H9 := Lib.hid h9; clear h9; have HK9 := Lib.hid hk9; clear hk9
          go_wp2_with fail
          go_roundw
          case rel => exact ⟨0 + 1, v9, by omega, by go_num, rfl, by rw [HST.out]; exact H9.out, HKA.out.trans HK9.out⟩
          case measure => simp [intOf]; omega
        · have hpos : 0 < j := by omega
          have hst := fmtS_step l hpos hd
          obtain ⟨L7, hL7⟩ : ∃ L, L = (l ++ 40 :: joinB [32] (fmtSL (ds.take j))) ++ [32] := ⟨_, rfl⟩
          rw [← hL7] at hst
          have hl7 : L7.length = (l ++ 40 :: joinB [32] (fmtSL (ds.take j))).length + 1 := by rw [hL7, List.length_append]; rfl
          have HD := Lib.hid hd; clear hd; have HI1 := Lib.hid hi1; clear hi1; have HX1 := Lib.hid hx1; clear hx1; have HIN1 := Lib.hid hin1; clear hin1; have HBT := Lib.hid hbt; clear hbt; have HMEM := Lib.hid hmem; clear hmem; have HKK := Lib.hid hkk; clear hkk; have HWT := Lib.hid hwt; clear hwt; have HJL := Lib.hid hjl; clear hjl; have HSUM := Lib.hid hsum; clear hsum; have HTL := Lib.hid htl; clear htl; have HLDS := Lib.hid hlds; clear hlds; have HLL := Lib.hid hll; clear hll; have HWF1 := Lib.hid hwf1; clear hwf1; have HNX := Lib.hid hnx; clear hnx; have HNP := Lib.hid hnp; clear hnp; have HKA := Lib.hid hkA; clear hkA; have HBA := Lib.hid hbA; clear hbA; have HST := Lib.hid hst; clear hst; have HBW := Lib.hid hbw; clear hbw; have HL7 := Lib.hid hL7; clear hL7; have HL7_ := Lib.hid hl7; clear hl7
          go_wp2_with (at_builtin; refine wpBts_byte rfl _ _ rfl w0.heap.size v' _ rfl HBA.out 32 32 rfl (by first | rfl | (simp [go_sem]; done)) (by have := HWT.out; have := HLL.out; have := HJL.out; have := HSUM.out; have := HTL.out; have := HLDS.out; omega) (by simp; omega) L7 HL7.out ?_)
          intro v7 w7 h7 hk7
          have hz7 := hk7.size
          simp only [World.size_alloc] at hz7
          obtain ⟨r0, r1, r2, r3, r4, m0, m1, m2, m3, m4⟩ := hk7.sbox HNP.out HNX.out
          have hbw7 : Below w0.heap.size w0 w7 := (HBW.out.trans (Below.alloc (Below.refl _ _) (by omega) _)).trans hk7.1
          have H7 := Lib.hid h7; clear h7; have HK7 := Lib.hid hk7; clear hk7; have HBW7 := Lib.hid hbw7; clear hbw7
          go_wp2_with fail
          refine (IH.out k1 n1 s1 x1 ds1 HMEM.out k1 n1 s1 x1 xa1 xc1 a1 cap1 ms1 _ v7 w0 _ HWF1.out (HITEMS.out _ HMEM.out) (by have := HWT.out; omega) (by have := HL7_.out; have := HWT.out; have := HLL.out; have := HJL.out; have := HSUM.out; have := HTL.out; have := HLDS.out; omega) HI1.out HX1.out HIN1.out H7.out HBW7.out HT.out).mono ?_
          rintro e w9 ⟨v9, rfl, h9, hk9⟩
          have H9 := Lib.hid h9; clear h9; have HK9 := Lib.hid hk9; clear hk9
          go_wp2_with fail
          go_roundw
          case rel => exact ⟨j + 1, v9, by omega, by go_num, rfl, by rw [HST.out]; exact H9.out, (HKA.out.trans HK7.out).trans HK9.out⟩
          case measure => simp [intOf]; omega
      · have hk2 : j = ms.length := by omega
        subst hk2
        rw [HL.out, List.take_length] at hbt
        have hjl := joinB_length [32] (fmtSL ds)
        have hsum := fmtS_wt ds HWD.out.2.2.2.2
        simp only [List.length_singleton] at hjl
        have hll : (l ++ 40 :: joinB [32] (fmtSL ds)).length = l.length + 1 + (joinB [32] (fmtSL ds)).length := by simp; omega
        obtain ⟨L9, hL9⟩ : ∃ L, L = (l ++ 40 :: joinB [32] (fmtSL ds)) ++ [41] := ⟨_, rfl⟩
        have hfl : l ++ (40 :: (joinB [32] (fmtSL ds) ++ [41])) = L9 := by rw [hL9]; simp
        have HBT := Lib.hid hbt; clear hbt; have HKK := Lib.hid hkk; clear hkk; have HJL := Lib.hid hjl; clear hjl; have HSUM := Lib.hid hsum; clear hsum; have HLL := Lib.hid hll; clear hll; have HFL := Lib.hid hfl; clear hfl; have HL9 := Lib.hid hL9; clear hL9
        go_wp2_with (at_builtin; refine wpBts_byte rfl _ _ rfl w0.heap.size v' _ rfl HBT.out 41 41 rfl (by first | rfl | (simp [go_sem]; done)) (by have := HLL.out; have := HJL.out; have := HSUM.out; omega) (by omega) L9 HL9.out ?_)
        intro v7 w7 h7 hk7
        have H7 := Lib.hid h7; clear h7; have HK7 := Lib.hid hk7; clear hk7
        go_wp2_with fail
        go_ret
        exact ⟨v7, rfl, by rw [HF.out, HFL.out]; exact H7.out, HKK.out.trans HK7.out⟩
  · have hf := fmtS_leaf hk n s x ds
    have hds := syn_leaf hok hk
    subst hds
    obtain rfl : ms = [] := List.length_eq_zero_iff.1 (by have := HL.out; simpa using this)
    have hkb : (k != 0) = true := by simp [hk]
    have hdl := fmtD_leaf_length k n s HWD.out.2.1
    obtain ⟨L1, hL1⟩ : ∃ L, L = l ++ fmtD (.mk k n s []) := ⟨_, rfl⟩
    have hn1 : L1.length = l.length + (fmtD (.mk k n s [])).length := by rw [hL1, List.length_append]
    have hfl : l ++ (fmtD (.mk k n s []) ++ scT x) = L1 ++ scT x := by rw [hL1]; simp
    have hs0 : ((w.alloc (.cells #[.int .i64 k, .int .i64 n, .string s, .slice xa x.length xc, .slice a 0 cap] 69)).cell? ⟨w.heap.size, 0, none⟩ = some (.int .i64 k) ∧ (w.alloc (.cells #[.int .i64 k, .int .i64 n, .string s, .slice xa x.length xc, .slice a 0 cap] 69)).cell? ⟨w.heap.size, 1, none⟩ = some (.int .i64 n) ∧ (w.alloc (.cells #[.int .i64 k, .int .i64 n, .string s, .slice xa x.length xc, .slice a 0 cap] 69)).cell? ⟨w.heap.size, 2, none⟩ = some (.string s) ∧ (w.alloc (.cells #[.int .i64 k, .int .i64 n, .string s, .slice xa x.length xc, .slice a 0 cap] 69)).cell? ⟨w.heap.size, 3, none⟩ = some (.slice xa x.length xc) ∧ (w.alloc (.cells #[.int .i64 k, .int .i64 n, .string s, .slice xa x.length xc, .slice a 0 cap] 69)).cell? ⟨w.heap.size, 4, none⟩ = some (.slice a 0 cap)) := by refine ⟨?_, ?_, ?_, ?_, ?_⟩ <;> first | (simp [go_sem]; done) | (simp [go_sem]; rfl)
    have hbx2 : SBox w.heap.size k n s (.slice xa x.length xc) (.slice a 0 cap) (w.alloc (.cells #[.int .i64 k, .int .i64 n, .string s, .slice xa x.length xc, .slice a 0 cap] 69)).drew := HBX.out.of rfl
    have hhp2 : (w.alloc (.cells #[.int .i64 k, .int .i64 n, .string s, .slice xa x.length xc, .slice a 0 cap] 69)).drew.heap[w.heap.size]? = some (.cells #[.int .i64 k, .int .i64 n, .string s, .slice xa x.length xc, .slice a 0 cap] 69) := HHP.out
    have HF := Lib.hid hf; clear hf; have HOK := Lib.hid hok; clear hok; have HDL := Lib.hid hdl; clear hdl; have HK := Lib.hid hk; clear hk; have HL1 := Lib.hid hL1; clear hL1; have HN1 := Lib.hid hn1; clear hn1; have HFL := Lib.hid hfl; clear hfl; have HBX2 := Lib.hid hbx2; clear hbx2; have HHP2 := Lib.hid hhp2; clear hhp2
    go_enter Tryd.func85, Tryd.ntmps85
    go_wp2_with fail
    go_region_held3 (fun w' => (w'.cell? ⟨w.heap.size, 0, none⟩ = some (.int .i64 k) ∧ w'.cell? ⟨w.heap.size, 1, none⟩ = some (.int .i64 n) ∧ w'.cell? ⟨w.heap.size, 2, none⟩ = some (.string s) ∧ w'.cell? ⟨w.heap.size, 3, none⟩ = some (.slice xa x.length xc) ∧ w'.cell? ⟨w.heap.size, 4, none⟩ = some (.slice a 0 cap)))
      (first | (with_reducible exact hs0) | (with_reducible exact hs1) | (with_reducible exact hs3) | (simp only [World.cell?_drew]; first | (with_reducible exact hs0) | (with_reducible exact hs1) | (with_reducible exact hs3)))
      (first
        | (go_at_call 51; refine (writeDatum_calls [] k n s none 0 [] l v w0 _ ⟨HWD.out.1, HWD.out.2.1, HWD.out.2.2.1, trivial⟩ (by simp [Dat.wtX]; omega) rfl (M.Mine.nil w0 0 4 31 (by decide)).in_ HOA.out.drew (hb0.trans HA.out.drew.1) HT.out).mono ?_; rintro e w1 ⟨v1, rfl, h1, hk1⟩; have hk1_ := HA.out.drew.trans hk1; have hs1 : (w1.cell? ⟨w.heap.size, 0, none⟩ = some (.int .i64 k) ∧ w1.cell? ⟨w.heap.size, 1, none⟩ = some (.int .i64 n) ∧ w1.cell? ⟨w.heap.size, 2, none⟩ = some (.string s) ∧ w1.cell? ⟨w.heap.size, 3, none⟩ = some (.slice xa x.length xc) ∧ w1.cell? ⟨w.heap.size, 4, none⟩ = some (.slice a 0 cap)) := (by have hsb := Kb.sbox (k := k) (n := n) (s := s) (x := .slice xa x.length xc) (v := .slice a 0 cap) (c := w.heap.size) hk1 HHP2.out HBX2.out; exact ⟨hsb.c0, hsb.c1, hsb.c2, hsb.c3, hsb.c4⟩); (try rw [← HL1.out] at h1))
        | (go_at_call 70; refine (writeScopes_calls xa xc x L1 v1 w0 _ (by omega) (by have := HN1.out; have := HDL.out; omega) HWD.out.2.2.2.1 HX.out h1 (hb0.trans hk1_.1) HT.out).mono ?_; rintro e w3 ⟨v3, rfl, h3, hk3⟩; have hs3 : (w3.cell? ⟨w.heap.size, 0, none⟩ = some (.int .i64 k) ∧ w3.cell? ⟨w.heap.size, 1, none⟩ = some (.int .i64 n) ∧ w3.cell? ⟨w.heap.size, 2, none⟩ = some (.string s) ∧ w3.cell? ⟨w.heap.size, 3, none⟩ = some (.slice xa x.length xc) ∧ w3.cell? ⟨w.heap.size, 4, none⟩ = some (.slice a 0 cap)) := (by have hsb := Kb.sbox (k := k) (n := n) (s := s) (x := .slice xa x.length xc) (v := .slice a 0 cap) (c := w.heap.size) (hk1.trans hk3) HHP2.out HBX2.out; exact ⟨hsb.c0, hsb.c1, hsb.c2, hsb.c3, hsb.c4⟩)))
    all_goals
      go_wp2_with fail
      go_ret
      exact ⟨v3, rfl, by rw [HF.out, HFL.out]; exact h3, hk1_.trans hk3⟩
set_option maxHeartbeats 1000000 in
theorem iFormatSyntax_calls (k n : Int) (s : ByteArray) (x : List Int) (ds : List Syn) (xa : Option Addr) (xc : Nat) (a : Option Addr) (cap : Nat) (ms : List M) (w : World) (hwf : (Syn.mk k n s x ds).wf) (hcB : Syn.countL ds ≤ 900000000) (hB : s.size + (x.length + (ds.length + Syn.wtX ds)) ≤ 2000000) (hi : Syn.IsL 69 ds ms) (hown : (SynOwn 69 xa xc x a cap ms).In w) (B : Nat) (hT : Tab B w) (hBw : B ≤ w.heap.size) :
    Calls Tryd.prog 47 #[.agg #[.int .i64 k, .int .i64 n, .string s, .slice xa x.length xc, .slice a ms.length cap]] w (Ret (.string ⟨(fmtSOf k n s x ds).toArray⟩) w) := by
  have hx := SynIn_x hown
  have hin := SynIn_ms hown
  have hcap := hin.len
  have hxl := Ints.len hx
  have hT2 := hT.mono hBw
  have HI := Lib.hid hi; clear hi; have HX := Lib.hid hx; clear hx; have HIN := Lib.hid hin; clear hin; have HOWN := Lib.hid hown; clear hown; have HWF := Lib.hid hwf; clear hwf; have HT := Lib.hid hT; clear hT; have HT2 := Lib.hid hT2; clear hT2
  go_enter Tryd.func47, Tryd.ntmps47
  go_wp2_with fail
  refine (iIsSyntax_calls k n s x ds xa xc a cap ms _ HWF.out (by omega) HI.out (HOWN.out.below (by (repeat (first | with_reducible assumption | with_reducible exact Below.refl _ _ | with_reducible refine Below.drew ?_ | with_reducible refine belowDrewN ?_ _ | ((with_reducible refine Below.setCell ?_ ?_ _); rotate_left; focus (first | omega | (simp; done) | (simp; omega))) | ((with_reducible refine Below.alloc ?_ ?_ _); rotate_left; focus (first | omega | (simp; done) | (simp; omega)))))))).mono ?_
  rintro e w1 ⟨rfl, hb1⟩
  obtain ⟨hc1, hf1⟩ := bcell hb1; have hz1 := hb1.size; (try simp only [World.size_alloc, World.size_setCell, World.size_drew, sizeDrewN] at hz1 hc1 hf1); have hp1_0 : w.heap.size < w1.heap.size := (by omega)
  have hq : SBox w.heap.size k n s (.slice xa x.length xc) (.slice a ms.length cap) w1 := by constructor <;> first | (simp (disch := omega) [hc1, hf1, go_sem]; done) | (simp (disch := omega) [hc1, hf1, go_sem]; rfl)
  obtain ⟨q0, q1, q2, q3, q4, e0, e1, e2, e3, e4⟩ := hq
  clear hc1 hf1
  cases hv : isSynB k n s x ds with
  | true =>
    have hs : fmtSOf k n s x ds = fmtS (.mk k n s x ds) := by unfold fmtSOf; rw [if_pos hv]
    have hok := isSynB_okF hv
    have HS := Lib.hid hs; clear hs; have HV := Lib.hid hv; clear hv; have HOK := Lib.hid hok; clear hok
    go_wp2_with fail
    refine (writeSyntax_calls ds k n s x xa xc a cap ms [] (.slice none 0 0) w w1 HWF.out HOK.out hB (by simp; omega) HI.out HX.out HIN.out (Bts.nil _ _) (by (repeat (first | with_reducible assumption | with_reducible exact Below.refl _ _ | with_reducible refine Below.drew ?_ | with_reducible refine belowDrewN ?_ _ | ((with_reducible refine Below.setCell ?_ ?_ _); rotate_left; focus (first | omega | (simp; done) | (simp; omega))) | ((with_reducible refine Below.alloc ?_ ?_ _); rotate_left; focus (first | omega | (simp; done) | (simp; omega))) | ((with_reducible refine Below.trans ?_ (Below.mono hb1 ?_)); rotate_left; focus (first | omega | (simp; done) | (simp; omega)))))) HT2.out).mono ?_
    rintro e w2 ⟨v2, rfl, h2, hk2⟩
    rw [List.nil_append] at h2
    have hcv := h2.str
    have H2 := Lib.hid h2; clear h2; have HK2 := Lib.hid hk2; clear hk2
    go_wp2_with fail
    go_ret
    exact ⟨by rw [HS.out]; rfl, (show Below w.heap.size w w1 by (repeat (first | with_reducible assumption | with_reducible exact Below.refl _ _ | with_reducible refine Below.drew ?_ | with_reducible refine belowDrewN ?_ _ | ((with_reducible refine Below.setCell ?_ ?_ _); rotate_left; focus (first | omega | (simp; done) | (simp; omega))) | ((with_reducible refine Below.alloc ?_ ?_ _); rotate_left; focus (first | omega | (simp; done) | (simp; omega))) | ((with_reducible refine Below.trans ?_ (Below.mono hb1 ?_)); rotate_left; focus (first | omega | (simp; done) | (simp; omega)))))).trans HK2.out.1⟩
  | false =>
    have hs : fmtSOf k n s x ds = [] := by unfold fmtSOf; rw [if_neg (by rw [hv]; decide)]
    have HS := Lib.hid hs; clear hs; have HV := Lib.hid hv; clear hv
    go_wp2_with fail
    go_ret
    exact ⟨by rw [HS.out]; rfl, by (repeat (first | with_reducible assumption | with_reducible exact Below.refl _ _ | with_reducible refine Below.drew ?_ | with_reducible refine belowDrewN ?_ _ | ((with_reducible refine Below.setCell ?_ ?_ _); rotate_left; focus (first | omega | (simp; done) | (simp; omega))) | ((with_reducible refine Below.alloc ?_ ?_ _); rotate_left; focus (first | omega | (simp; done) | (simp; omega))) | ((with_reducible refine Below.trans ?_ (Below.mono hb1 ?_)); rotate_left; focus (first | omega | (simp; done) | (simp; omega)))))⟩
end Go.Proofs.YtoflfamfhpijcaaDoor
