/-
  Walks: the program's text of a datum. Condition: the library's table of powers of ten reads as laid.
-/
import Derived.Test.YtoflfamfhpijcaaDoorF3
import Derived.Test.YtoflfamfhpijcaaDoorF5
import Derived.Test.YtoflfamfhpijcaaDoorF6
set_option linter.unusedVariables false
set_option linter.unusedSimpArgs false
set_option maxRecDepth 100000
namespace Go.Proofs.YtoflfamfhpijcaaDoor
open Go.RowKit

theorem heapBox (w : World) (o : Obj) : (w.alloc o).heap[w.heap.size]? = some o := by
  show (w.heap.push o)[w.heap.size]? = _
  simp
theorem Dat.wfL_iff {ds : List Dat} : Dat.wfL ds ↔ ∀ d ∈ ds, d.wf := by
  induction ds with
  | nil => simp [Dat.wfL]
  | cons d r ih => simp [Dat.wfL, ih]
theorem Dat.wfL_take {ds : List Dat} (h : Dat.wfL ds) (j : Nat) : Dat.wfL (ds.take j) := Dat.wfL_iff.2 fun d hd => Dat.wfL_iff.1 h d (List.mem_of_mem_take hd)
theorem Dat.wtX_pre : ∀ {ds : List Dat} {j : Nat} {d : Dat}, ds[j]? = some d → Dat.wtX (ds.take j) + d.wt ≤ Dat.wtX ds
  | [], j, d, h => by simp at h
  | x :: r, 0, d, h => by simp at h; subst h; simp [Dat.wtX]
  | x :: r, j + 1, d, h => by have := Dat.wtX_pre (ds := r) (j := j) (by simpa using h); rw [List.take_succ_cons]; simp only [Dat.wtX]; omega
theorem fmt_step0 (l : List UInt8) {ds : List Dat} {d : Dat} (h : ds[0]? = some d) : l ++ 40 :: joinB [32] (fmtL (ds.take (0 + 1))) = (l ++ 40 :: joinB [32] (fmtL (ds.take 0))) ++ fmtD d := by
  rw [fmtL_take h]; simp [fmtL, joinB]
theorem fmt_step (l : List UInt8) {ds : List Dat} {j : Nat} {d : Dat} (hj : 0 < j) (h : ds[j]? = some d) : l ++ 40 :: joinB [32] (fmtL (ds.take (j + 1))) = ((l ++ 40 :: joinB [32] (fmtL (ds.take j))) ++ [32]) ++ fmtD d := by
  rw [fmtL_take h, joinB_snoc]
  have hne : (fmtL (ds.take j)).isEmpty = false := by
    rw [fmtL_map]
    cases ds with
    | nil => simp at h
    | cons y r => cases j with
      | zero => omega
      | succ j => simp
  rw [hne]; simp
def WdSs (ds : List Dat) : Prop := ∀ (k n : Int) (s : ByteArray) (a : Option Addr) (cap : Nat) (ms : List M) (l : List UInt8) (v : Value) (w0 w : World), (Dat.mk k n s ds).wf → l.length + 60 * (s.size + (ds.length + Dat.wtX ds)) + 100 ≤ 1000000000000 → Dat.IsL 31 ds ms → (M.sl a cap 4 31 ms).In w0 →
    Bts w0.heap.size w v l → Below w0.heap.size w0 w → Tab w0.heap.size w0 →
    Calls Tryd.prog 51 #[v, .agg #[.int .i64 k, .int .i64 n, .string s, .slice a ms.length cap]] w (RetB w0.heap.size (l ++ fmtD (.mk k n s ds)) w)
set_option maxHeartbeats 2000000 in
theorem writeDatum_calls : ∀ ds, WdSs ds := by
  refine Dat.inductL fun ds ih => ?_
  intro k n s a cap ms l v w0 w hwf hB hi hin ho hb0 hT
  have hl := hi.length
  have hcap := hin.len
  have hz0 := hb0.size
  have hwd : I64 n ∧ Dat.wfL ds := ⟨hwf.2.1, hwf.2.2.2⟩
  have hbx : DBox w.heap.size k n s (.slice a ms.length cap) (w.alloc (.cells #[.int .i64 k, .int .i64 n, .string s, .slice a ms.length cap] 31)) := DBox.new _ _ _ _ _
  have hhp : (w.alloc (.cells #[.int .i64 k, .int .i64 n, .string s, .slice a ms.length cap] 31)).heap[w.heap.size]? = some (.cells #[.int .i64 k, .int .i64 n, .string s, .slice a ms.length cap] 31) := heapBox _ _
  have hA := (Kb.refl w0.heap.size w).alloc hz0 (.cells #[.int .i64 k, .int .i64 n, .string s, .slice a ms.length cap] 31)
  have hoA := ho.alloc (.cells #[.int .i64 k, .int .i64 n, .string s, .slice a ms.length cap] 31)
  have IH := Lib.hid ih; clear ih; have HIN := Lib.hid hin; clear hin; have HI := Lib.hid hi; clear hi; have HL := Lib.hid hl; clear hl; have HWF := Lib.hid hwf; clear hwf; have HWD := Lib.hid hwd; clear hwd; have HO := Lib.hid ho; clear ho; have HT := Lib.hid hT; clear hT; have HBX := Lib.hid hbx; clear hbx; have HHP := Lib.hid hhp; clear hhp; have HA := Lib.hid hA; clear hA; have HOA := Lib.hid hoA; clear hoA
  by_cases h1 : k = 1
  · subst h1
    have hf := fmtD_sym n s ds
    have HF := Lib.hid hf; clear hf
    go_enter Tryd.func51, Tryd.ntmps51
    go_wp2_with (at_builtin; refine wpBts_str rfl _ _ rfl w0.heap.size v l rfl HOA.out s rfl (by omega) (by simp; omega) _ (by first | rfl | (simp; done)) ?_)
    intro v3 w3 h3 hk3
    have H3 := Lib.hid h3; clear h3; have HK3 := Lib.hid hk3; clear hk3
    go_wp2_with fail
    go_ret
    exact ⟨v3, rfl, by rw [HF.out]; first | exact H3.out | simpa using H3.out, HA.out.trans HK3.out⟩
  by_cases h2 : k = 2
  · subst h2
    have hf := fmtD_num n s ds
    have HF := Lib.hid hf; clear hf
    go_enter Tryd.func51, Tryd.ntmps51
    go_wp2_with fail
    refine (iFormatNumber_calls n _ HWD.out.1 w0.heap.size (HT.out.on (by (repeat (first | with_reducible assumption | with_reducible exact Below.refl _ _ | with_reducible refine Below.drew ?_ | with_reducible refine belowDrewN ?_ _ | ((with_reducible refine Below.setCell ?_ ?_ _); rotate_left; focus (first | omega | (simp; done) | (simp; omega))) | ((with_reducible refine Below.alloc ?_ ?_ _); rotate_left; focus (first | omega | (simp; done) | (simp; omega))))))) (by simp; omega)).mono ?_
    rintro e w1 ⟨rfl, hb1⟩
    have hz1 := hb1.size
    simp only [World.size_alloc] at hz1
    have hlen := Lib.itoa_length_le n HWD.out.1.1 HWD.out.1.2
    have ho1 := HOA.out.below hb1
    have hk1 := HA.out.trans (Kb.of hb1 (by simp; omega))
    have HO1 := Lib.hid ho1; clear ho1; have HK1 := Lib.hid hk1; clear hk1
    go_wp2_with (at_builtin; refine wpBts_str rfl _ _ rfl w0.heap.size v l rfl HO1.out ⟨(Lib.itoa n).toArray⟩ rfl (by simp [ByteArray.size]; omega) (by omega) _ (by first | rfl | (simp; done)) ?_)
    intro v3 w3 h3 hk3
    have H3 := Lib.hid h3; clear h3; have HK3 := Lib.hid hk3; clear hk3
    go_wp2_with fail
    go_ret
    exact ⟨v3, rfl, by rw [HF.out]; first | exact H3.out | simpa using H3.out, HK1.out.trans HK3.out⟩
  by_cases h3 : k = 3
  · subst h3
    by_cases hn : n = 1
    · subst hn
      have hf := fmtD_tr s ds
      have HF := Lib.hid hf; clear hf
      go_enter Tryd.func51, Tryd.ntmps51
      go_wp2_with (at_builtin; refine wpBts_str rfl _ _ rfl w0.heap.size v l rfl HOA.out ⟨#[35, 116]⟩ rfl (by simp [ByteArray.size]; omega) (by simp; omega) _ (by first | rfl | (simp; done)) ?_)
      intro v3 w3 h3 hk3
      have H3 := Lib.hid h3; clear h3; have HK3 := Lib.hid hk3; clear hk3
      go_wp2_with fail
      go_ret
      exact ⟨v3, rfl, by rw [HF.out]; first | exact H3.out | simpa using H3.out, HA.out.trans HK3.out⟩
    · have hf := fmtD_fa hn s ds
      have hnb : (n == 1) = false := by simp [hn]
      have HF := Lib.hid hf; clear hf; have HN := Lib.hid hn; clear hn
      go_enter Tryd.func51, Tryd.ntmps51
      go_wp2_with (at_builtin; refine wpBts_str rfl _ _ rfl w0.heap.size v l rfl HOA.out ⟨#[35, 102]⟩ rfl (by simp [ByteArray.size]; omega) (by simp; omega) _ (by first | rfl | (simp; done)) ?_)
      intro v3 w3 h3 hk3
      have H3 := Lib.hid h3; clear h3; have HK3 := Lib.hid hk3; clear hk3
      go_wp2_with fail
      go_ret
      exact ⟨v3, rfl, by rw [HF.out]; first | exact H3.out | simpa using H3.out, HA.out.trans HK3.out⟩
  by_cases h4 : k = 4
  · subst h4
    have hf := fmtD_str n s ds
    obtain ⟨L1, hL1⟩ : ∃ L, L = l ++ [34] := ⟨_, rfl⟩
    obtain ⟨L2, hL2⟩ : ∃ L, L = L1 ++ s.data.toList := ⟨_, rfl⟩
    obtain ⟨L3, hL3⟩ : ∃ L, L = L2 ++ [34] := ⟨_, rfl⟩
    have hfl : l ++ (34 :: (s.data.toList ++ [34])) = L3 := by rw [hL3, hL2, hL1]; simp
    have hn1 : L1.length = l.length + 1 := by rw [hL1, List.length_append]; rfl
    have hn2 : L2.length = l.length + 1 + s.size := by rw [hL2, List.length_append, hn1]; rfl
    have HF := Lib.hid hf; clear hf; have HFL := Lib.hid hfl; clear hfl; have HL1 := Lib.hid hL1; clear hL1; have HL2 := Lib.hid hL2; clear hL2; have HL3 := Lib.hid hL3; clear hL3; have HN1 := Lib.hid hn1; clear hn1; have HN2 := Lib.hid hn2; clear hn2
    go_enter Tryd.func51, Tryd.ntmps51
    go_wp2_with (at_builtin; refine wpBts_byte rfl _ _ rfl w0.heap.size v l rfl HOA.out 34 34 rfl (by first | rfl | (simp [go_sem]; done)) (by omega) (by simp; omega) L1 HL1.out ?_)
    intro v3 w3 h3 hk3
    have hz3 := hk3.size
    simp only [World.size_alloc] at hz3
    obtain ⟨q0, q1, q2, q3, f0, f1, f2, f3⟩ := hk3.dbox HHP.out HBX.out
    have H3 := Lib.hid h3; clear h3; have HK3 := Lib.hid hk3; clear hk3
    go_wp2_with (at_builtin; refine wpBts_str rfl _ _ rfl w0.heap.size v3 L1 rfl H3.out s rfl (by have := HN1.out; omega) (by omega) L2 HL2.out ?_)
    intro v5 w5 h5 hk5
    have hz5 := hk5.size
    have H5 := Lib.hid h5; clear h5; have HK5 := Lib.hid hk5; clear hk5
    clear q0 q1 q2 q3 f0 f1 f2 f3
    go_wp2_with (at_builtin; refine wpBts_byte rfl _ _ rfl w0.heap.size v5 L2 rfl H5.out 34 34 rfl (by first | rfl | (simp [go_sem]; done)) (by have := HN2.out; omega) (by omega) L3 HL3.out ?_)
    intro v6 w6 h6 hk6
    have H6 := Lib.hid h6; clear h6; have HK6 := Lib.hid hk6; clear hk6
    go_wp2_with fail
    go_ret
    exact ⟨v6, rfl, by rw [HF.out, HFL.out]; exact H6.out, ((HA.out.trans HK3.out).trans HK5.out).trans HK6.out⟩
  · have hf := fmtD_list h1 h2 h3 h4 n s ds
    have e1 : (k == 1) = false := by simp [h1]
    have e2 : (k == 2) = false := by simp [h2]
    have e3 : (k == 3) = false := by simp [h3]
    have e4 : (k == 4) = false := by simp [h4]
    have HF := Lib.hid hf; clear hf
    clear h1 h2 h3 h4
    go_enter Tryd.func51, Tryd.ntmps51
    go_wp2_with (at_builtin; refine wpBts_byte rfl _ _ rfl w0.heap.size v l rfl HOA.out 40 40 rfl (by first | rfl | (simp [go_sem]; done)) (by omega) (by simp; omega) (l ++ [40]) rfl ?_)
    intro v3 w3 h3 hk3
    have hz3 := hk3.size
    simp only [World.size_alloc] at hz3
    obtain ⟨q0, q1, q2, q3, f0, f1, f2, f3⟩ := hk3.dbox HHP.out HBX.out
    have hk4 := HA.out.trans hk3
    have H3 := Lib.hid h3; clear h3; have HK3 := Lib.hid hk3; clear hk3; have HK4 := Lib.hid hk4; clear hk4
    go_wp2_with fail
    go_loopw [0, 5, 49] (fun o u i wr => ∃ (j : Nat) (v' : Value), j ≤ ms.length ∧ i = .int .i64 j ∧ v' = o ∧ Bts w0.heap.size wr v' (l ++ 40 :: joinB [32] (fmtL (ds.take j))) ∧ Kb w0.heap.size w wr) (fun _ _ i _ => ms.length - (intOf i).toNat)
    case atStart => exact ⟨0, v3, Nat.zero_le _, rfl, rfl, by simpa [fmtL, joinB] using H3.out, HK4.out⟩
    case round =>
      obtain ⟨j, v', hj, rfl, rfl, hbt, hk⟩ := hrel
      have hzk := hk.size
      by_cases hlt : j < ms.length
      · obtain ⟨bb, off, k1, n1, s1, ds1, a1, cap1, ms1, rfl, hd, hi1, hin1, c0, c1, c2, c3⟩ := Dat.elem HIN.out HI.out j hlt
        have hbl := World.block_lt_of_cell? w0 _ c0
        simp only at hbl
        have hbw : Below w0.heap.size w0 wr := hb0.trans hk.1
        have g0 := (hbw.cell (p := ⟨bb, _, none⟩) hbl).trans c0
        have g1 := (hbw.cell (p := ⟨bb, _, none⟩) hbl).trans c1
        have g2 := (hbw.cell (p := ⟨bb, _, none⟩) hbl).trans c2
        have g3 := (hbw.cell (p := ⟨bb, _, none⟩) hbl).trans c3
        clear c0 c1 c2 c3
        have hmem := List.mem_of_getElem? hd
        have hwt := Dat.wtX_pre hd
        have hjl := joinB_length [32] (fmtL (ds.take j))
        have hsum := fmt_wt (ds.take j) (Dat.wfL_take HWD.out.2 j)
        have htl : (ds.take j).length ≤ j := by simp; omega
        simp only [Dat.wt] at hwt
        simp only [List.length_singleton] at hjl
        have hlds := HL.out
        have hll : (l ++ 40 :: joinB [32] (fmtL (ds.take j))).length = l.length + 1 + (joinB [32] (fmtL (ds.take j))).length := by simp; omega
        have hwf1 := Dat.wfL_get HWD.out.2 hd
        have hnx : DBox wr.heap.size k1 n1 s1 (.slice a1 ms1.length cap1) (wr.alloc (.cells #[.int .i64 k1, .int .i64 n1, .string s1, .slice a1 ms1.length cap1] 31)) := DBox.new _ _ _ _ _
        have hnp : (wr.alloc (.cells #[.int .i64 k1, .int .i64 n1, .string s1, .slice a1 ms1.length cap1] 31)).heap[wr.heap.size]? = some (.cells #[.int .i64 k1, .int .i64 n1, .string s1, .slice a1 ms1.length cap1] 31) := heapBox _ _
        have hkA := hk.alloc (by omega) (.cells #[.int .i64 k1, .int .i64 n1, .string s1, .slice a1 ms1.length cap1] 31)
        have hbA := hbt.alloc (.cells #[.int .i64 k1, .int .i64 n1, .string s1, .slice a1 ms1.length cap1] 31)
        by_cases hj0 : j = 0
        · subst hj0
          have hst := fmt_step0 l hd
          simp only [Nat.zero_mul, Nat.add_zero] at g0 g1 g2 g3
          have HD := Lib.hid hd; clear hd; have HI1 := Lib.hid hi1; clear hi1; have HIN1 := Lib.hid hin1; clear hin1; have HBT := Lib.hid hbt; clear hbt; have HMEM := Lib.hid hmem; clear hmem; have HK := Lib.hid hk; clear hk; have HWT := Lib.hid hwt; clear hwt; have HJL := Lib.hid hjl; clear hjl; have HSUM := Lib.hid hsum; clear hsum; have HTL := Lib.hid htl; clear htl; have HLDS := Lib.hid hlds; clear hlds; have HLL := Lib.hid hll; clear hll; have HWF1 := Lib.hid hwf1; clear hwf1; have HNX := Lib.hid hnx; clear hnx; have HNP := Lib.hid hnp; clear hnp; have HKA := Lib.hid hkA; clear hkA; have HBA := Lib.hid hbA; clear hbA; have HST := Lib.hid hst; clear hst; have HBW := Lib.hid hbw; clear hbw
          go_wp2_with fail
          refine (IH.out k1 n1 s1 ds1 HMEM.out k1 n1 s1 a1 cap1 ms1 _ v' w0 _ HWF1.out (by have := HWT.out; have := HLL.out; have := HJL.out; have := HSUM.out; have := HTL.out; have := HLDS.out; omega) HI1.out HIN1.out HBA.out (HBW.out.trans (Below.alloc (Below.refl _ _) (by omega) _)) HT.out).mono ?_
          rintro e w9 ⟨v9, rfl, h9, hk9⟩
          have H9 := Lib.hid h9; clear h9; have HK9 := Lib.hid hk9; clear hk9
          go_wp2_with fail
          go_roundw
          case rel => exact ⟨0 + 1, v9, by omega, by go_num, rfl, by rw [HST.out]; exact H9.out, HKA.out.trans HK9.out⟩
          case measure => simp [intOf]; omega
        · have hpos : 0 < j := by omega
          have hst := fmt_step l hpos hd
          obtain ⟨L7, hL7⟩ : ∃ L, L = (l ++ 40 :: joinB [32] (fmtL (ds.take j))) ++ [32] := ⟨_, rfl⟩
          rw [← hL7] at hst
          have hl7 : L7.length = (l ++ 40 :: joinB [32] (fmtL (ds.take j))).length + 1 := by rw [hL7, List.length_append]; rfl
          have HD := Lib.hid hd; clear hd; have HI1 := Lib.hid hi1; clear hi1; have HIN1 := Lib.hid hin1; clear hin1; have HBT := Lib.hid hbt; clear hbt; have HMEM := Lib.hid hmem; clear hmem; have HK := Lib.hid hk; clear hk; have HWT := Lib.hid hwt; clear hwt; have HJL := Lib.hid hjl; clear hjl; have HSUM := Lib.hid hsum; clear hsum; have HTL := Lib.hid htl; clear htl; have HLDS := Lib.hid hlds; clear hlds; have HLL := Lib.hid hll; clear hll; have HWF1 := Lib.hid hwf1; clear hwf1; have HNX := Lib.hid hnx; clear hnx; have HNP := Lib.hid hnp; clear hnp; have HKA := Lib.hid hkA; clear hkA; have HBA := Lib.hid hbA; clear hbA; have HST := Lib.hid hst; clear hst; have HBW := Lib.hid hbw; clear hbw; have HL7 := Lib.hid hL7; clear hL7; have HL7_ := Lib.hid hl7; clear hl7
          go_wp2_with (at_builtin; refine wpBts_byte rfl _ _ rfl w0.heap.size v' _ rfl HBA.out 32 32 rfl (by first | rfl | (simp [go_sem]; done)) (by have := HWT.out; have := HLL.out; have := HJL.out; have := HSUM.out; have := HTL.out; have := HLDS.out; omega) (by simp; omega) L7 HL7.out ?_)
          intro v7 w7 h7 hk7
          have hz7 := hk7.size
          simp only [World.size_alloc] at hz7
          obtain ⟨r0, r1, r2, r3, m0, m1, m2, m3⟩ := hk7.dbox HNP.out HNX.out
          have hbw7 : Below w0.heap.size w0 w7 := (HBW.out.trans (Below.alloc (Below.refl _ _) (by omega) _)).trans hk7.1
          have H7 := Lib.hid h7; clear h7; have HK7 := Lib.hid hk7; clear hk7; have HBW7 := Lib.hid hbw7; clear hbw7
          go_wp2_with fail
          refine (IH.out k1 n1 s1 ds1 HMEM.out k1 n1 s1 a1 cap1 ms1 _ v7 w0 _ HWF1.out (by have := HL7_.out; have := HWT.out; have := HLL.out; have := HJL.out; have := HSUM.out; have := HTL.out; have := HLDS.out; omega) HI1.out HIN1.out H7.out HBW7.out HT.out).mono ?_
          rintro e w9 ⟨v9, rfl, h9, hk9⟩
          have H9 := Lib.hid h9; clear h9; have HK9 := Lib.hid hk9; clear hk9
          go_wp2_with fail
          go_roundw
          case rel => exact ⟨j + 1, v9, by omega, by go_num, rfl, by rw [HST.out]; exact H9.out, (HKA.out.trans HK7.out).trans HK9.out⟩
          case measure => simp [intOf]; omega
      · have hk2 : j = ms.length := by omega
        subst hk2
        rw [HL.out, List.take_length] at hbt
        have hjl := joinB_length [32] (fmtL ds)
        have hsum := fmt_wt ds HWD.out.2
        simp only [List.length_singleton] at hjl
        have hll : (l ++ 40 :: joinB [32] (fmtL ds)).length = l.length + 1 + (joinB [32] (fmtL ds)).length := by simp; omega
        obtain ⟨L9, hL9⟩ : ∃ L, L = (l ++ 40 :: joinB [32] (fmtL ds)) ++ [41] := ⟨_, rfl⟩
        have hfl : l ++ (40 :: (joinB [32] (fmtL ds) ++ [41])) = L9 := by rw [hL9]; simp
        have HBT := Lib.hid hbt; clear hbt; have HK := Lib.hid hk; clear hk; have HJL := Lib.hid hjl; clear hjl; have HSUM := Lib.hid hsum; clear hsum; have HLL := Lib.hid hll; clear hll; have HFL := Lib.hid hfl; clear hfl; have HL9 := Lib.hid hL9; clear hL9
        go_wp2_with (at_builtin; refine wpBts_byte rfl _ _ rfl w0.heap.size v' _ rfl HBT.out 41 41 rfl (by first | rfl | (simp [go_sem]; done)) (by have := HLL.out; have := HJL.out; have := HSUM.out; omega) (by omega) L9 HL9.out ?_)
        intro v7 w7 h7 hk7
        have H7 := Lib.hid h7; clear h7; have HK7 := Lib.hid hk7; clear hk7
        go_wp2_with fail
        go_ret
        exact ⟨v7, rfl, by rw [HF.out, HFL.out]; exact H7.out, HK.out.trans HK7.out⟩
set_option maxHeartbeats 1000000 in
theorem iFormatDatum_calls (k n : Int) (s : ByteArray) (ds : List Dat) (a : Option Addr) (cap : Nat) (ms : List M) (w : World) (hwf : (Dat.mk k n s ds).wf) (hB : Dat.countL ds ≤ 900000000) (hW : s.size + (ds.length + Dat.wtX ds) ≤ 2000000) (hi : Dat.IsL 31 ds ms) (hin : (M.sl a cap 4 31 ms).In w) (B : Nat) (hT : Tab B w) (hBw : B ≤ w.heap.size) :
    Calls Tryd.prog 32 #[.agg #[.int .i64 k, .int .i64 n, .string s, .slice a ms.length cap]] w (Ret (.string ⟨(fmtOf k n s ds).toArray⟩) w) := by
  have hcap := hin.len
  have hT2 := hT.mono hBw
  have HI := Lib.hid hi; clear hi; have HIN := Lib.hid hin; clear hin; have HWF := Lib.hid hwf; clear hwf; have HT := Lib.hid hT; clear hT; have HT2 := Lib.hid hT2; clear hT2
  cases hv : isDatB k n s ds with
  | true =>
    have hs : fmtOf k n s ds = fmtD (.mk k n s ds) := by unfold fmtOf; rw [if_pos hv]
    rw [hs]
    have HS := Lib.hid hs; clear hs
    go_enter Tryd.func32, Tryd.ntmps32
    go_wp2_with fail
    refine (iIsDatum_calls k n s ds a cap ms _ HWF.out (by omega) HI.out (HIN.out.below (by (repeat (first | with_reducible assumption | with_reducible exact Below.refl _ _ | with_reducible refine Below.drew ?_ | with_reducible refine belowDrewN ?_ _ | ((with_reducible refine Below.setCell ?_ ?_ _); rotate_left; focus (first | omega | (simp; done) | (simp; omega))) | ((with_reducible refine Below.alloc ?_ ?_ _); rotate_left; focus (first | omega | (simp; done) | (simp; omega)))))))).mono ?_
    rintro e w1 ⟨rfl, hb1⟩
    obtain ⟨hc1, hf1⟩ := bcell hb1; have hz1 := hb1.size; (try simp only [World.size_alloc, World.size_setCell, World.size_drew, sizeDrewN] at hz1 hc1 hf1)
    have q0 : w1.cell? ⟨w.heap.size, 0, none⟩ = some (.int .i64 k) := by rw [hc1 _ _ (by omega)]; simp [go_sem]
    have q1 : w1.cell? ⟨w.heap.size, 1, none⟩ = some (.int .i64 n) := by rw [hc1 _ _ (by omega)]; simp [go_sem]
    have q2 : w1.cell? ⟨w.heap.size, 2, none⟩ = some (.string s) := by rw [hc1 _ _ (by omega)]; simp [go_sem]
    have q3 : w1.cell? ⟨w.heap.size, 3, none⟩ = some (.slice a ms.length cap) := by rw [hc1 _ _ (by omega)]; simp [go_sem]
    rw [hv]
    have HV := Lib.hid hv; clear hv
    go_wp2_with fail
    refine (writeDatum_calls ds k n s a cap ms [] (.slice none 0 0) w w1 HWF.out (by simp; omega) HI.out HIN.out (Bts.nil _ _) (by (repeat (first | with_reducible assumption | with_reducible exact Below.refl _ _ | with_reducible refine Below.drew ?_ | with_reducible refine belowDrewN ?_ _ | ((with_reducible refine Below.setCell ?_ ?_ _); rotate_left; focus (first | omega | (simp; done) | (simp; omega))) | ((with_reducible refine Below.alloc ?_ ?_ _); rotate_left; focus (first | omega | (simp; done) | (simp; omega))) | ((with_reducible refine Below.trans ?_ (Below.mono hb1 ?_)); rotate_left; focus (first | omega | (simp; done) | (simp; omega)))))) HT2.out).mono ?_
    rintro e w2 ⟨v2, rfl, h2, hk2⟩
    rw [List.nil_append] at h2
    have hcv := h2.str
    have H2 := Lib.hid h2; clear h2; have HK2 := Lib.hid hk2; clear hk2
    go_wp2_with fail
    go_ret
    exact ⟨rfl, (show Below w.heap.size w w1 by (repeat (first | with_reducible assumption | with_reducible exact Below.refl _ _ | with_reducible refine Below.drew ?_ | with_reducible refine belowDrewN ?_ _ | ((with_reducible refine Below.setCell ?_ ?_ _); rotate_left; focus (first | omega | (simp; done) | (simp; omega))) | ((with_reducible refine Below.alloc ?_ ?_ _); rotate_left; focus (first | omega | (simp; done) | (simp; omega))) | ((with_reducible refine Below.trans ?_ (Below.mono hb1 ?_)); rotate_left; focus (first | omega | (simp; done) | (simp; omega)))))).trans HK2.out.1⟩
  | false =>
    have hs : fmtOf k n s ds = [] := by unfold fmtOf; rw [if_neg (by rw [hv]; decide)]
    rw [hs]
    have HS := Lib.hid hs; clear hs
    go_enter Tryd.func32, Tryd.ntmps32
    go_wp2_with fail
    refine (iIsDatum_calls k n s ds a cap ms _ HWF.out (by omega) HI.out (HIN.out.below (by (repeat (first | with_reducible assumption | with_reducible exact Below.refl _ _ | with_reducible refine Below.drew ?_ | with_reducible refine belowDrewN ?_ _ | ((with_reducible refine Below.setCell ?_ ?_ _); rotate_left; focus (first | omega | (simp; done) | (simp; omega))) | ((with_reducible refine Below.alloc ?_ ?_ _); rotate_left; focus (first | omega | (simp; done) | (simp; omega)))))))).mono ?_
    rintro e w1 ⟨rfl, hb1⟩
    obtain ⟨hc1, hf1⟩ := bcell hb1; have hz1 := hb1.size; (try simp only [World.size_alloc, World.size_setCell, World.size_drew, sizeDrewN] at hz1 hc1 hf1)
    rw [hv]
    go_wp2_with fail
    go_ret
    exact ⟨rfl, by (repeat (first | with_reducible assumption | with_reducible exact Below.refl _ _ | with_reducible refine Below.drew ?_ | with_reducible refine belowDrewN ?_ _ | ((with_reducible refine Below.setCell ?_ ?_ _); rotate_left; focus (first | omega | (simp; done) | (simp; omega))) | ((with_reducible refine Below.alloc ?_ ?_ _); rotate_left; focus (first | omega | (simp; done) | (simp; omega))) | ((with_reducible refine Below.trans ?_ (Below.mono hb1 ?_)); rotate_left; focus (first | omega | (simp; done) | (simp; omega)))))⟩
end Go.Proofs.YtoflfamfhpijcaaDoor
