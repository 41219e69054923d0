/-
  Walks: the text of several data. Condition: the library's table of powers of ten reads as laid.
-/
import Derived.Test.YtoflfamfhpijcaaDoorF7
import Derived.Test.YtoflfamfhpijcaaDoorN8
set_option linter.unusedVariables false
set_option linter.unusedSimpArgs false
set_option maxRecDepth 100000
namespace Go.Proofs.YtoflfamfhpijcaaDoor
open Go.RowKit

/-- a line for each datum -/
def fmtLn : List Dat → List UInt8
  | [] => []
  | d :: r => fmtD d ++ 10 :: fmtLn r
theorem fmtLn_snoc : ∀ (ds : List Dat) (d : Dat), fmtLn (ds ++ [d]) = (fmtLn ds ++ fmtD d) ++ [10]
  | [], d => by simp [fmtLn]
  | x :: r, d => by rw [List.cons_append, fmtLn, fmtLn, fmtLn_snoc r d]; simp
theorem fmtLn_take {ds : List Dat} {j : Nat} {d : Dat} (h : ds[j]? = some d) : fmtLn (ds.take (j + 1)) = (fmtLn (ds.take j) ++ fmtD d) ++ [10] := by
  rw [take_snoc h, fmtLn_snoc]
theorem fmtLn_length : ∀ ds : List Dat, (fmtLn ds).length = ((fmtL ds).map fun x => x.length + 1).sum
  | [] => rfl
  | d :: r => by have := fmtLn_length r; simp only [fmtLn, fmtL, List.length_append, List.length_cons, List.map_cons, List.sum_cons]; omega
noncomputable def fmtsOf (ds : List Dat) : List UInt8 := if areB ds = true then fmtLn ds else []
theorem areB_ok {ds : List Dat} (h : areB ds = true) : ∀ d ∈ ds, d.ok := by
  have h2 : AreP ds := by simpa [areB] using h
  exact h2.2.2
set_option maxHeartbeats 1000000 in
theorem sFormatData_calls (ds : List Dat) (a : Option Addr) (cap : Nat) (ms : List M) (w : World) (hwl : Dat.wfL ds) (hB : Dat.countL ds ≤ 1000000000) (hW : ds.length + Dat.wtX ds ≤ 2000000) (hi : Dat.IsL 31 ds ms) (hin : (M.sl a cap 4 31 ms).In w) :
    Calls Tryd.prog 35 #[.slice a ms.length cap] w (Ret (.string ⟨(fmtsOf ds).toArray⟩) w) := by
  have hl := hi.length
  have hcap := hin.len
  have HI := Lib.hid hi; clear hi; have HIN := Lib.hid hin; clear hin; have HWL := Lib.hid hwl; clear hwl; have HL := Lib.hid hl; clear hl
  cases hv : areB ds with
  | true =>
    have hs : fmtsOf ds = fmtLn ds := by unfold fmtsOf; rw [if_pos hv]
    have hok := areB_ok hv
    rw [hs]
    have HS := Lib.hid hs; clear hs; have HOK := Lib.hid hok; clear hok
    go_enter Tryd.func35, Tryd.ntmps35
    go_wp2_with fail
    refine (sAreData_calls ds a cap ms _ HWL.out hB HI.out (HIN.out.below (by (repeat (first | with_reducible assumption | with_reducible exact Below.refl _ _ | with_reducible refine Below.drew ?_ | with_reducible refine belowDrewN ?_ _ | ((with_reducible refine Below.setCell ?_ ?_ _); rotate_left; focus (first | omega | (simp; done) | (simp; omega))) | ((with_reducible refine Below.alloc ?_ ?_ _); rotate_left; focus (first | omega | (simp; done) | (simp; omega)))))))).mono ?_
    rintro e w1 ⟨rfl, hb1⟩
    rw [hv]
    have HV := Lib.hid hv; clear hv
    go_wp2_with fail
    go_loopw [3, 11] (fun o i wr => ∃ (j : Nat), j ≤ ms.length ∧ i = .int .i64 j ∧ o = .string ⟨(fmtLn (ds.take j)).toArray⟩ ∧ Below w.heap.size w wr) (fun _ i _ => ms.length - (intOf i).toNat)
    case atStart => exact ⟨0, Nat.zero_le _, rfl, rfl, by (repeat (first | with_reducible assumption | with_reducible exact Below.refl _ _ | with_reducible refine Below.drew ?_ | with_reducible refine belowDrewN ?_ _ | ((with_reducible refine Below.setCell ?_ ?_ _); rotate_left; focus (first | omega | (simp; done) | (simp; omega))) | ((with_reducible refine Below.alloc ?_ ?_ _); rotate_left; focus (first | omega | (simp; done) | (simp; omega))) | ((with_reducible refine Below.trans ?_ (Below.mono hb1 ?_)); rotate_left; focus (first | omega | (simp; done) | (simp; omega)))))⟩
    case round =>
      obtain ⟨j, hj, rfl, rfl, hb⟩ := hrel
      have hz := hb.size
      by_cases hlt : j < ms.length
      · obtain ⟨bb, off, k1, n1, s1, ds1, a1, cap1, ms1, rfl, hd, hi1, hin1, c0, c1, c2, c3⟩ := Dat.elem (HIN.out.below hb) HI.out j hlt
        have hmem := List.mem_of_getElem? hd
        have hwt1 := Dat.wtX_pre hd
        simp only [Dat.wt] at hwt1
        have hft := fmtLn_take hd
        have hln := fmtLn_length (ds.take j)
        have hsum := fmt_wt (ds.take j) (Dat.wfL_take HWL.out j)
        have hlj : (ds.take j).length ≤ j := by simp; omega
        have hwf1 := Dat.wfL_get HWL.out hd
        have hfl : (fmtD (.mk k1 n1 s1 ds1)).length ≤ 10000000000 := by
          have h1 := fmt_wt [.mk k1 n1 s1 ds1] ⟨hwf1, trivial⟩
          simp only [fmtL, List.map_cons, List.map_nil, List.sum_cons, List.sum_nil, Dat.wtX, Dat.wt, List.length_singleton] at h1
          omega
        generalize hcur : fmtLn (ds.take j) = cur at *
        have hlds := HL.out
        have hcl : cur.length ≤ 10000000000 := by omega
        have hns1 : ¬ (9223372036854775807 < cur.length + (fmtD (.mk k1 n1 s1 ds1)).length) := by omega
        have hns2 : ¬ (9223372036854775807 < cur.length + (fmtD (.mk k1 n1 s1 ds1)).length + 1) := by omega
        have hap1 := baApp cur (fmtD (.mk k1 n1 s1 ds1))
        have hap2 := baApp (cur ++ fmtD (.mk k1 n1 s1 ds1)) [10]
        have HD := Lib.hid hd; clear hd; have HI1 := Lib.hid hi1; clear hi1; have HIN1 := Lib.hid hin1; clear hin1; have HMEM := Lib.hid hmem; clear hmem; have HFT := Lib.hid hft; clear hft; have HCUR := Lib.hid hcur; clear hcur; have HAP1 := Lib.hid hap1; clear hap1; have HAP2 := Lib.hid hap2; clear hap2; have HWF1 := Lib.hid hwf1; clear hwf1; have HLN := Lib.hid hln; clear hln; have HSUM := Lib.hid hsum; clear hsum; have HWT1 := Lib.hid hwt1; clear hwt1; have HFL := Lib.hid hfl; clear hfl; have HCL := Lib.hid hcl; clear hcl; have HLDS := Lib.hid hlds; clear hlds
        go_wp2_with fail
        refine (l1Format_calls ds1 k1 n1 s1 a1 cap1 ms1 _ HWF1.out (HOK.out _ HMEM.out) (by have := HWT1.out; omega) HI1.out (HIN1.out.below (by (repeat (first | with_reducible assumption | with_reducible exact Below.refl _ _ | with_reducible refine Below.drew ?_ | with_reducible refine belowDrewN ?_ _ | ((with_reducible refine Below.setCell ?_ ?_ _); rotate_left; focus (first | omega | (simp; done) | (simp; omega))) | ((with_reducible refine Below.alloc ?_ ?_ _); rotate_left; focus (first | omega | (simp; done) | (simp; omega)))))))).mono ?_
        rintro e w2 ⟨rfl, hb2⟩
        go_wp2_with fail
        go_roundw
        case rel => exact ⟨j + 1, by omega, by go_num, by rw [HFT.out, ← HAP2.out, ← HAP1.out], by (repeat (first | with_reducible assumption | with_reducible exact Below.refl _ _ | with_reducible refine Below.drew ?_ | with_reducible refine belowDrewN ?_ _ | ((with_reducible refine Below.setCell ?_ ?_ _); rotate_left; focus (first | omega | (simp; done) | (simp; omega))) | ((with_reducible refine Below.alloc ?_ ?_ _); rotate_left; focus (first | omega | (simp; done) | (simp; omega))) | ((with_reducible refine Below.trans ?_ (Below.mono hb2 ?_)); rotate_left; focus (first | omega | (simp; done) | (simp; omega)))))⟩
        case measure => simp [intOf]; omega
      · have hk2 : j = ms.length := by omega
        subst hk2
        rw [HL.out, List.take_length]
        go_wp2_with fail
        go_ret
        exact ⟨rfl, by (repeat (first | with_reducible assumption | with_reducible exact Below.refl _ _ | with_reducible refine Below.drew ?_ | with_reducible refine belowDrewN ?_ _ | ((with_reducible refine Below.setCell ?_ ?_ _); rotate_left; focus (first | omega | (simp; done) | (simp; omega))) | ((with_reducible refine Below.alloc ?_ ?_ _); rotate_left; focus (first | omega | (simp; done) | (simp; omega)))))⟩
  | false =>
    have hs : fmtsOf ds = [] := by unfold fmtsOf; rw [if_neg (by rw [hv]; decide)]
    rw [hs]
    have HS := Lib.hid hs; clear hs
    go_enter Tryd.func35, Tryd.ntmps35
    go_wp2_with fail
    refine (sAreData_calls ds a cap ms _ HWL.out hB HI.out (HIN.out.below (by (repeat (first | with_reducible assumption | with_reducible exact Below.refl _ _ | with_reducible refine Below.drew ?_ | with_reducible refine belowDrewN ?_ _ | ((with_reducible refine Below.setCell ?_ ?_ _); rotate_left; focus (first | omega | (simp; done) | (simp; omega))) | ((with_reducible refine Below.alloc ?_ ?_ _); rotate_left; focus (first | omega | (simp; done) | (simp; omega)))))))).mono ?_
    rintro e w1 ⟨rfl, hb1⟩
    rw [hv]
    go_wp2_with fail
    go_ret
    exact ⟨rfl, by (repeat (first | with_reducible assumption | with_reducible exact Below.refl _ _ | with_reducible refine Below.drew ?_ | with_reducible refine belowDrewN ?_ _ | ((with_reducible refine Below.setCell ?_ ?_ _); rotate_left; focus (first | omega | (simp; done) | (simp; omega))) | ((with_reducible refine Below.alloc ?_ ?_ _); rotate_left; focus (first | omega | (simp; done) | (simp; omega))) | ((with_reducible refine Below.trans ?_ (Below.mono hb1 ?_)); rotate_left; focus (first | omega | (simp; done) | (simp; omega)))))⟩
set_option maxHeartbeats 1000000 in
theorem iFormatData_calls (ds : List Dat) (a : Option Addr) (cap : Nat) (ms : List M) (w : World) (hwl : Dat.wfL ds) (hB : Dat.countL ds ≤ 1000000000) (hW : ds.length + Dat.wtX ds ≤ 2000000) (hi : Dat.IsL 31 ds ms) (hin : (M.sl a cap 4 31 ms).In w) (B : Nat) (hT : Tab B w) (hBw : B ≤ w.heap.size) :
    Calls Tryd.prog 13 #[.slice a ms.length cap] w (Ret (.string ⟨(fmtsOf ds).toArray⟩) w) := by
  have hl := hi.length
  have hcap := hin.len
  have hT2 := hT.mono hBw
  have HI := Lib.hid hi; clear hi; have HIN := Lib.hid hin; clear hin; have HWL := Lib.hid hwl; clear hwl; have HL := Lib.hid hl; clear hl; have HT := Lib.hid hT; clear hT; have HT2 := Lib.hid hT2; clear hT2
  cases hv : areB ds with
  | true =>
    have hs : fmtsOf ds = fmtLn ds := by unfold fmtsOf; rw [if_pos hv]
    rw [hs]
    have HS := Lib.hid hs; clear hs
    go_enter Tryd.func13, Tryd.ntmps13
    go_wp2_with fail
    refine (iAreData_calls ds a cap ms _ HWL.out hB HI.out (HIN.out.below (by (repeat (first | with_reducible assumption | with_reducible exact Below.refl _ _ | with_reducible refine Below.drew ?_ | with_reducible refine belowDrewN ?_ _ | ((with_reducible refine Below.setCell ?_ ?_ _); rotate_left; focus (first | omega | (simp; done) | (simp; omega))) | ((with_reducible refine Below.alloc ?_ ?_ _); rotate_left; focus (first | omega | (simp; done) | (simp; omega)))))))).mono ?_
    rintro e w1 ⟨rfl, hb1⟩
    rw [hv]
    have HV := Lib.hid hv; clear hv
    go_wp2_with fail
    go_loopw [3, 11] (fun o i wr => ∃ (j : Nat) (v' : Value), j ≤ ms.length ∧ i = .int .i64 j ∧ v' = o ∧ Bts w.heap.size wr v' (fmtLn (ds.take j)) ∧ Below w.heap.size w wr) (fun _ i _ => ms.length - (intOf i).toNat)
    case atStart => exact ⟨0, _, Nat.zero_le _, rfl, rfl, by simpa [fmtLn] using Bts.nil w.heap.size _, by (repeat (first | with_reducible assumption | with_reducible exact Below.refl _ _ | with_reducible refine Below.drew ?_ | with_reducible refine belowDrewN ?_ _ | ((with_reducible refine Below.setCell ?_ ?_ _); rotate_left; focus (first | omega | (simp; done) | (simp; omega))) | ((with_reducible refine Below.alloc ?_ ?_ _); rotate_left; focus (first | omega | (simp; done) | (simp; omega))) | ((with_reducible refine Below.trans ?_ (Below.mono hb1 ?_)); rotate_left; focus (first | omega | (simp; done) | (simp; omega)))))⟩
    case round =>
      obtain ⟨j, v', hj, rfl, rfl, hbt, hb⟩ := hrel
      have hz := hb.size
      by_cases hlt : j < ms.length
      · obtain ⟨bb, off, k1, n1, s1, ds1, a1, cap1, ms1, rfl, hd, hi1, hin1, c0, c1, c2, c3⟩ := Dat.elem HIN.out HI.out j hlt
        have hbl := World.block_lt_of_cell? w _ c0
        simp only at hbl
        have g0 := (hb.cell (p := ⟨bb, _, none⟩) hbl).trans c0
        have g1 := (hb.cell (p := ⟨bb, _, none⟩) hbl).trans c1
        have g2 := (hb.cell (p := ⟨bb, _, none⟩) hbl).trans c2
        have g3 := (hb.cell (p := ⟨bb, _, none⟩) hbl).trans c3
        clear c0 c1 c2 c3
        have hwt1 := Dat.wtX_pre hd
        simp only [Dat.wt] at hwt1
        have hft := fmtLn_take hd
        have hln := fmtLn_length (ds.take j)
        have hsum := fmt_wt (ds.take j) (Dat.wfL_take HWL.out j)
        have hlj : (ds.take j).length ≤ j := by simp; omega
        have hwf1 := Dat.wfL_get HWL.out hd
        have hfl : (fmtD (.mk k1 n1 s1 ds1)).length ≤ 10000000000 := by
          have h1 := fmt_wt [.mk k1 n1 s1 ds1] ⟨hwf1, trivial⟩
          simp only [fmtL, List.map_cons, List.map_nil, List.sum_cons, List.sum_nil, Dat.wtX, Dat.wt, List.length_singleton] at h1
          omega
        generalize hcur : fmtLn (ds.take j) = cur at *
        have hlds := HL.out
        have hcl : cur.length ≤ 10000000000 := by omega
        obtain ⟨L1, hL1⟩ : ∃ L, L = cur ++ fmtD (.mk k1 n1 s1 ds1) := ⟨_, rfl⟩
        obtain ⟨L2, hL2⟩ : ∃ L, L = L1 ++ [10] := ⟨_, rfl⟩
        rw [← hL1, ← hL2] at hft
        have hn1 : L1.length + 1 ≤ 100000000000000 := by rw [hL1, List.length_append]; omega
        have hbA := hbt.alloc (.cells #[.int .i64 k1, .int .i64 n1, .string s1, .slice a1 ms1.length cap1] 31)
        have HD := Lib.hid hd; clear hd; have HI1 := Lib.hid hi1; clear hi1; have HIN1 := Lib.hid hin1; clear hin1; have HFT := Lib.hid hft; clear hft; have HCUR := Lib.hid hcur; clear hcur; have HL1 := Lib.hid hL1; clear hL1; have HL2 := Lib.hid hL2; clear hL2; have HWF1 := Lib.hid hwf1; clear hwf1; have HLN := Lib.hid hln; clear hln; have HSUM := Lib.hid hsum; clear hsum; have HWT1 := Lib.hid hwt1; clear hwt1; have HFL := Lib.hid hfl; clear hfl; have HCL := Lib.hid hcl; clear hcl; have HLDS := Lib.hid hlds; clear hlds; have HBT := Lib.hid hbt; clear hbt; have HN1 := Lib.hid hn1; clear hn1; have HBA := Lib.hid hbA; clear hbA
        go_wp2_with fail
        refine (writeDatum_calls ds1 k1 n1 s1 a1 cap1 ms1 cur v' w _ HWF1.out (by have := HWT1.out; have := HCL.out; omega) HI1.out HIN1.out HBA.out (by (repeat (first | with_reducible assumption | with_reducible exact Below.refl _ _ | with_reducible refine Below.drew ?_ | with_reducible refine belowDrewN ?_ _ | ((with_reducible refine Below.setCell ?_ ?_ _); rotate_left; focus (first | omega | (simp; done) | (simp; omega))) | ((with_reducible refine Below.alloc ?_ ?_ _); rotate_left; focus (first | omega | (simp; done) | (simp; omega)))))) HT2.out).mono ?_
        rintro e w2 ⟨v2, rfl, h2, hk2⟩
        rw [← HL1.out] at h2
        have hz2 := hk2.size
        simp only [World.size_alloc] at hz2
        have hb2 : Below w.heap.size w w2 := (show Below w.heap.size w _ by (repeat (first | with_reducible assumption | with_reducible exact Below.refl _ _ | with_reducible refine Below.drew ?_ | with_reducible refine belowDrewN ?_ _ | ((with_reducible refine Below.setCell ?_ ?_ _); rotate_left; focus (first | omega | (simp; done) | (simp; omega))) | ((with_reducible refine Below.alloc ?_ ?_ _); rotate_left; focus (first | omega | (simp; done) | (simp; omega)))))).trans hk2.1
        have H2 := Lib.hid h2; clear h2; have HK2 := Lib.hid hk2; clear hk2
        go_wp2_with (at_builtin; refine wpBts_byte rfl _ _ rfl w.heap.size v2 L1 rfl H2.out 10 10 rfl (by first | rfl | (simp [go_sem]; done)) HN1.out (by omega) L2 HL2.out ?_)
        intro v3 w3 h3 hk3
        have H3 := Lib.hid h3; clear h3; have HK3 := Lib.hid hk3; clear hk3
        go_wp2_with fail
        go_roundw
        case rel => exact ⟨j + 1, v3, by omega, by go_num, rfl, by rw [HFT.out]; exact H3.out, hb2.trans HK3.out.1⟩
        case measure => simp [intOf]; omega
      · have hk2 : j = ms.length := by omega
        subst hk2
        rw [HL.out, List.take_length] at hbt
        have hcv := hbt.str
        have HBT := Lib.hid hbt; clear hbt
        go_wp2_with fail
        go_ret
        exact ⟨rfl, by (repeat (first | with_reducible assumption | with_reducible exact Below.refl _ _ | with_reducible refine Below.drew ?_ | with_reducible refine belowDrewN ?_ _ | ((with_reducible refine Below.setCell ?_ ?_ _); rotate_left; focus (first | omega | (simp; done) | (simp; omega))) | ((with_reducible refine Below.alloc ?_ ?_ _); rotate_left; focus (first | omega | (simp; done) | (simp; omega)))))⟩
  | false =>
    have hs : fmtsOf ds = [] := by unfold fmtsOf; rw [if_neg (by rw [hv]; decide)]
    rw [hs]
    have HS := Lib.hid hs; clear hs
    go_enter Tryd.func13, Tryd.ntmps13
    go_wp2_with fail
    refine (iAreData_calls ds a cap ms _ HWL.out hB HI.out (HIN.out.below (by (repeat (first | with_reducible assumption | with_reducible exact Below.refl _ _ | with_reducible refine Below.drew ?_ | with_reducible refine belowDrewN ?_ _ | ((with_reducible refine Below.setCell ?_ ?_ _); rotate_left; focus (first | omega | (simp; done) | (simp; omega))) | ((with_reducible refine Below.alloc ?_ ?_ _); rotate_left; focus (first | omega | (simp; done) | (simp; omega)))))))).mono ?_
    rintro e w1 ⟨rfl, hb1⟩
    rw [hv]
    go_wp2_with fail
    go_ret
    exact ⟨rfl, by (repeat (first | with_reducible assumption | with_reducible exact Below.refl _ _ | with_reducible refine Below.drew ?_ | with_reducible refine belowDrewN ?_ _ | ((with_reducible refine Below.setCell ?_ ?_ _); rotate_left; focus (first | omega | (simp; done) | (simp; omega))) | ((with_reducible refine Below.alloc ?_ ?_ _); rotate_left; focus (first | omega | (simp; done) | (simp; omega))) | ((with_reducible refine Below.trans ?_ (Below.mono hb1 ?_)); rotate_left; focus (first | omega | (simp; done) | (simp; omega)))))⟩
end Go.Proofs.YtoflfamfhpijcaaDoor
