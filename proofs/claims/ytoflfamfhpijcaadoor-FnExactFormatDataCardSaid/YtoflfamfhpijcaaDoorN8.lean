/-
  Walks: AreData. No condition.
-/
import Derived.Test.YtoflfamfhpijcaaDoorN6
set_option linter.unusedVariables false
set_option linter.unusedSimpArgs false
set_option maxRecDepth 100000
namespace Go.Proofs.YtoflfamfhpijcaaDoor
open Go.RowKit

def AreP (ds : List Dat) : Prop := Dat.countL ds ≤ 600 ∧ Dat.depthL ds ≤ 20 ∧ ∀ d ∈ ds, d.ok
open Classical in
noncomputable def areB (ds : List Dat) : Bool := decide (AreP ds)
theorem areB_yes {ds : List Dat} (h : AreP ds) : areB ds = true := by simp [areB, h]
theorem areB_no {ds : List Dat} (h : ¬ AreP ds) : areB ds = false := by simp [areB, h]

theorem iAreData_calls (ds : List Dat) (a : Option Addr) (cap : Nat) (ms : List M) (w : World) (hwl : Dat.wfL ds) (hB : Dat.countL ds ≤ 1000000000) (hi : Dat.IsL 31 ds ms) (hin : (M.sl a cap 4 31 ms).In w) :
    Calls Tryd.prog 50 #[.slice a ms.length cap] w (Ret (.bool (areB ds)) w) := by
  have hl := hi.length
  have hcap := hin.len
  have HI := Lib.hid hi; clear hi; have HIN := Lib.hid hin; clear hin; have HWL := Lib.hid hwl; clear hwl; have HL := Lib.hid hl; clear hl
  go_enter Tryd.func50, Tryd.ntmps50
  go_wp2_with fail
  go_loopw [8] (fun i wr => ∃ (j : Nat), j ≤ ms.length ∧ i = .int .i64 j ∧ (j = 0 ∨ Dat.countL (ds.take j) ≤ 600) ∧ Dat.depthL (ds.take j) ≤ 20 ∧ (∀ x ∈ ds.take j, x.ok) ∧ (wr.cell? ⟨w.heap.size, 0, none⟩ = some (.int .i64 (Dat.countL (ds.take j))) ∧ wr.frozen? ⟨w.heap.size, 0, none⟩ = false) ∧ Below w.heap.size w wr ∧ w.heap.size + 1 ≤ wr.heap.size) (fun i _ => ms.length - (intOf i).toNat)
  case atStart => exact ⟨0, Nat.zero_le _, rfl, .inl rfl, by simp [Dat.depthL], by simp, by simp [go_sem, Dat.countL], by (repeat (first | with_reducible assumption | with_reducible exact Below.refl _ _ | with_reducible refine Below.drew ?_ | with_reducible refine belowDrewN ?_ _ | ((with_reducible refine Below.setCell ?_ ?_ _); rotate_left; focus (first | omega | (simp; done) | (simp; omega))) | ((with_reducible refine Below.alloc ?_ ?_ _); rotate_left; focus (first | omega | (simp; done) | (simp; omega))))), by simp⟩
  case round =>
    obtain ⟨j, hj, rfl, hct, hdp, hpre, ⟨q, qf⟩, hb, hsz⟩ := hrel
    by_cases hlt : j < ms.length
    · obtain ⟨b, off, k1, n1, s1, ds1, a1, cap1, ms1, rfl, hd, hi1, hin1, c0, c1, c2, c3⟩ := Dat.elem HIN.out HI.out j hlt
      have hbl := World.block_lt_of_cell? w _ c0
      simp only at hbl
      have e0 := (hb.cell (p := ⟨b, _, none⟩) hbl).trans c0
      have e1 := (hb.cell (p := ⟨b, _, none⟩) hbl).trans c1
      have e2 := (hb.cell (p := ⟨b, _, none⟩) hbl).trans c2
      have e3 := (hb.cell (p := ⟨b, _, none⟩) hbl).trans c3
      clear c0 c1 c2 c3
      obtain ⟨ht, hle⟩ := Dat.countL_le ds j _ hd
      have htd := Dat.depthL_take hd
      have hgd := Dat.depthL_get hd
      have hw1 := Dat.wfL_get HWL.out hd
      have hmem := List.mem_of_getElem? hd
      simp only [Dat.count] at hle ht
      simp only [Dat.depth] at htd hgd
      have hcp : Dat.countL (ds.take j) ≤ 600 := by
        rcases hct with rfl | h
        · simp [Dat.countL]
        · exact h
      have hbx := hb.alloc (by exact hb.size) (.cells #[.int .i64 k1, .int .i64 n1, .string s1, .slice a1 ms1.length cap1] 31)
      have q1 : (wr.alloc (.cells #[.int .i64 k1, .int .i64 n1, .string s1, .slice a1 ms1.length cap1] 31)).cell? ⟨w.heap.size, 0, none⟩ = some (.int .i64 (Dat.countL (ds.take j))) := by simp (disch := (first | omega | (simp; omega))) [go_sem, q]
      have q1f : (wr.alloc (.cells #[.int .i64 k1, .int .i64 n1, .string s1, .slice a1 ms1.length cap1] 31)).frozen? ⟨w.heap.size, 0, none⟩ = false := by simp (disch := (first | omega | (simp; omega))) [go_sem, qf]
      have hpr : w.heap.size < wr.heap.size := by omega
      have HD := Lib.hid hd; clear hd; have HI1 := Lib.hid hi1; clear hi1; have HIN1 := Lib.hid hin1; clear hin1; have HMEM := Lib.hid hmem; clear hmem; have HT := Lib.hid ht; clear ht; have HTD := Lib.hid htd; clear htd; have HGD := Lib.hid hgd; clear hgd; have HW1 := Lib.hid hw1; clear hw1; have HBX := Lib.hid hbx; clear hbx; have HPRE := Lib.hid hpre; clear hpre; have Q1 := Lib.hid q1; clear q1; have Q1F := Lib.hid q1f; clear q1f
      go_wp2_with fail
      refine (measure_calls ds1 k1 n1 s1 a1 cap1 ms1 1 w.heap.size (Dat.countL (ds.take j)) w _ HW1.out (by omega) HI1.out HIN1.out HBX.out (Nat.le_refl _) (by omega) (by omega) (by omega) (by omega) Q1.out Q1F.out).mono ?_
      rintro e w1 ⟨bb, C', rfl, hbb, hbc, hlo, hhi, q', qf', ho2⟩
      have hbf := ho2.low HBX.out (Nat.le_refl _)
      have hz2 := ho2.size
      simp only [World.size_alloc] at hz2
      cases bb with
      | true =>
        obtain ⟨m1, m2, m3⟩ := hbb.1 rfl
        have hcc := hbc rfl
        have hpre2 := ok_take HPRE.out HD.out m3
        have hdp2 : Dat.depthL (ds.take (j + 1)) ≤ 20 := by rw [HTD.out]; omega
        have hct2 : (Dat.countL (ds.take (j + 1)) : Int) = C' := by rw [HT.out, hcc]; push_cast; omega
        have HO2 := Lib.hid ho2; clear ho2; have HPRE2 := Lib.hid hpre2; clear hpre2; have HDP2 := Lib.hid hdp2; clear hdp2; have HBB := Lib.hid hbb; clear hbb; have HBC := Lib.hid hbc; clear hbc; have HCC := Lib.hid hcc; clear hcc; have M3 := Lib.hid m3; clear m3; have HBF := Lib.hid hbf; clear hbf
        go_wp2_with fail
        go_roundw
        case rel => exact ⟨j + 1, by omega, by go_num, .inr (by have := HCC.out; omega), HDP2.out, HPRE2.out, ⟨by rw [hct2]; exact q', qf'⟩, HBF.out, by omega⟩
        case measure => simp [intOf]; omega
      | false =>
        have hno : areB ds = false := areB_no fun h => by
          have : ¬ MsOk k1 n1 s1 ds1 1 (Dat.countL (ds.take j)) := fun h2 => by have := hbb.2 h2; simp at this
          apply this
          refine ⟨?_, ?_, h.2.2 _ HMEM.out⟩
          · have := HGD.out; have := h.2.1; omega
          · have := h.1; omega
        have HO2 := Lib.hid ho2; clear ho2; have HBB := Lib.hid hbb; clear hbb; have HBC := Lib.hid hbc; clear hbc; have HNO := Lib.hid hno; clear hno; have HBF := Lib.hid hbf; clear hbf
        go_wp2_with fail
        go_ret
        exact ⟨ret_b HNO.out.symm, HBF.out⟩
    · have hk2 : j = ms.length := by omega
      subst hk2
      have hd2 : ds.take ms.length = ds := by rw [HL.out, List.take_length]
      rw [hd2] at hct hdp hpre
      have hyes := areB_yes (ds := ds) ⟨by rcases hct with h | h; (have : ds = [] := by have := HL.out; cases ds; rfl; simp at this; omega); subst this; simp [Dat.countL]; exact h, hdp, hpre⟩
      have HD2 := Lib.hid hd2; clear hd2; have HYES := Lib.hid hyes; clear hyes; have HPRE := Lib.hid hpre; clear hpre
      go_wp2_with fail
      go_ret
      exact ⟨ret_b HYES.out.symm, hb⟩
theorem sAreData_calls (ds : List Dat) (a : Option Addr) (cap : Nat) (ms : List M) (w : World) (hwl : Dat.wfL ds) (hB : Dat.countL ds ≤ 1000000000) (hi : Dat.IsL 31 ds ms) (hin : (M.sl a cap 4 31 ms).In w) :
    Calls Tryd.prog 15 #[.slice a ms.length cap] w (Ret (.bool (areB ds)) w) := by
  have hl := hi.length
  have hcap := hin.len
  have HI := Lib.hid hi; clear hi; have HIN := Lib.hid hin; clear hin; have HWL := Lib.hid hwl; clear hwl; have HL := Lib.hid hl; clear hl
  go_enter Tryd.func15, Tryd.ntmps15
  go_wp2_with fail
  go_loopw [3, 8] (fun t i wr => ∃ (j : Nat), j ≤ ms.length ∧ i = .int .i64 j ∧ t = .int .i64 (Dat.countL (ds.take j)) ∧ Dat.depthL (ds.take j) ≤ 20 ∧ (∀ x ∈ ds.take j, x.ok) ∧ Below w.heap.size w wr ∧ w.heap.size ≤ wr.heap.size) (fun _ i _ => ms.length - (intOf i).toNat)
  case atStart => exact ⟨0, Nat.zero_le _, rfl, by simp [Dat.countL], by simp [Dat.depthL], by simp, by (repeat (first | with_reducible assumption | with_reducible exact Below.refl _ _ | with_reducible refine Below.drew ?_ | with_reducible refine belowDrewN ?_ _ | ((with_reducible refine Below.setCell ?_ ?_ _); rotate_left; focus (first | omega | (simp; done) | (simp; omega))) | ((with_reducible refine Below.alloc ?_ ?_ _); rotate_left; focus (first | omega | (simp; done) | (simp; omega))))), by simp⟩
  case round =>
    obtain ⟨j, hj, rfl, rfl, hdp, hpre, hb, hsz⟩ := hrel
    by_cases hlt : j < ms.length
    · obtain ⟨b, off, k1, n1, s1, ds1, a1, cap1, ms1, rfl, hd, hi1, hin1, c0, c1, c2, c3⟩ := Dat.elem (HIN.out.below hb) HI.out j hlt
      obtain ⟨ht, hle⟩ := Dat.countL_le ds j _ hd
      have htd := Dat.depthL_take hd
      have hgd := Dat.depthL_get hd
      have hw1 := Dat.wfL_get HWL.out hd
      have hmem := List.mem_of_getElem? hd
      simp only [Dat.count] at hle ht
      simp only [Dat.depth] at htd hgd
      cases hq : isDatB k1 n1 s1 ds1 with
      | true =>
        have hp : IsDatP k1 n1 s1 ds1 := by by_cases h : IsDatP k1 n1 s1 ds1; exact h; rw [isDatB_no h] at hq; cases hq
        have hpre2 := ok_take hpre hd hp.2.2
        have hdp2 : Dat.depthL (ds.take (j + 1)) ≤ 20 := by rw [htd]; have := hp.2.1; omega
        have hct2 : ((Dat.countL (ds.take (j + 1)) : Nat) : Int) = (Dat.countL (ds.take j) : Int) + ((1 + Dat.countL ds1 : Nat) : Int) := by rw [ht]; push_cast; omega
        have HD := Lib.hid hd; clear hd; have HI1 := Lib.hid hi1; clear hi1; have HIN1 := Lib.hid hin1; clear hin1; have HMEM := Lib.hid hmem; clear hmem; have HT := Lib.hid ht; clear ht; have HTD := Lib.hid htd; clear htd; have HGD := Lib.hid hgd; clear hgd; have HW1 := Lib.hid hw1; clear hw1; have HPRE := Lib.hid hpre; clear hpre; have HPRE2 := Lib.hid hpre2; clear hpre2; have HDP2 := Lib.hid hdp2; clear hdp2; have HCT2 := Lib.hid hct2; clear hct2; have HP := Lib.hid hp; clear hp
        go_wp2_with fail
        refine (sIsDatum_calls k1 n1 s1 ds1 a1 cap1 ms1 _ HW1.out (by omega) HI1.out (HIN1.out.below (by (repeat (first | with_reducible assumption | with_reducible exact Below.refl _ _ | with_reducible refine Below.drew ?_ | with_reducible refine belowDrewN ?_ _ | ((with_reducible refine Below.setCell ?_ ?_ _); rotate_left; focus (first | omega | (simp; done) | (simp; omega))) | ((with_reducible refine Below.alloc ?_ ?_ _); rotate_left; focus (first | omega | (simp; done) | (simp; omega)))))))).mono ?_
        rintro e w1 ⟨rfl, hb1⟩
        obtain ⟨hc1, hf1⟩ := bcell hb1; have hz1 := hb1.size; (try simp only [World.size_alloc, World.size_setCell, World.size_drew, sizeDrewN] at hz1 hc1 hf1)
        have hpr : wr.heap.size < w1.heap.size := by omega
        go_wp2_with fail
        refine (sCountNodes_calls ds1 k1 n1 s1 a1 cap1 ms1 _ (by omega) HI1.out (HIN1.out.below (by (repeat (first | with_reducible assumption | with_reducible exact Below.refl _ _ | with_reducible refine Below.drew ?_ | with_reducible refine belowDrewN ?_ _ | ((with_reducible refine Below.setCell ?_ ?_ _); rotate_left; focus (first | omega | (simp; done) | (simp; omega))) | ((with_reducible refine Below.alloc ?_ ?_ _); rotate_left; focus (first | omega | (simp; done) | (simp; omega))) | ((with_reducible refine Below.trans ?_ (Below.mono hb1 ?_)); rotate_left; focus (first | omega | (simp; done) | (simp; omega)))))))).mono ?_
        rintro e w2 ⟨rfl, hb2⟩
        obtain ⟨hc2, hf2⟩ := bcell hb2; have hz2 := hb2.size; (try simp only [World.size_alloc, World.size_setCell, World.size_drew, sizeDrewN] at hz2 hc2 hf2)
        go_wp2_with fail
        go_roundw
        case rel => exact ⟨j + 1, by omega, by go_num, by rw [HCT2.out]; go_num, HDP2.out, HPRE2.out, by (repeat (first | with_reducible assumption | with_reducible exact Below.refl _ _ | with_reducible refine Below.drew ?_ | with_reducible refine belowDrewN ?_ _ | ((with_reducible refine Below.setCell ?_ ?_ _); rotate_left; focus (first | omega | (simp; done) | (simp; omega))) | ((with_reducible refine Below.alloc ?_ ?_ _); rotate_left; focus (first | omega | (simp; done) | (simp; omega))) | ((with_reducible refine Below.trans ?_ (Below.mono hb1 ?_)); rotate_left; focus (first | omega | (simp; done) | (simp; omega))) | ((with_reducible refine Below.trans ?_ (Below.mono hb2 ?_)); rotate_left; focus (first | omega | (simp; done) | (simp; omega))))), by omega⟩
        case measure => simp [intOf]; omega
      | false =>
        have hno : areB ds = false := areB_no fun h => by
          have hp : IsDatP k1 n1 s1 ds1 := ⟨by have := h.1; omega, by have := h.2.1; omega, h.2.2 _ hmem⟩
          rw [isDatB_yes hp] at hq; cases hq
        have HD := Lib.hid hd; clear hd; have HI1 := Lib.hid hi1; clear hi1; have HIN1 := Lib.hid hin1; clear hin1; have HMEM := Lib.hid hmem; clear hmem; have HT := Lib.hid ht; clear ht; have HTD := Lib.hid htd; clear htd; have HGD := Lib.hid hgd; clear hgd; have HW1 := Lib.hid hw1; clear hw1; have HPRE := Lib.hid hpre; clear hpre; have HNO := Lib.hid hno; clear hno
        go_wp2_with fail
        refine (sIsDatum_calls k1 n1 s1 ds1 a1 cap1 ms1 _ HW1.out (by omega) HI1.out (HIN1.out.below (by (repeat (first | with_reducible assumption | with_reducible exact Below.refl _ _ | with_reducible refine Below.drew ?_ | with_reducible refine belowDrewN ?_ _ | ((with_reducible refine Below.setCell ?_ ?_ _); rotate_left; focus (first | omega | (simp; done) | (simp; omega))) | ((with_reducible refine Below.alloc ?_ ?_ _); rotate_left; focus (first | omega | (simp; done) | (simp; omega)))))))).mono ?_
        rintro e w1 ⟨rfl, hb1⟩
        obtain ⟨hc1, hf1⟩ := bcell hb1; have hz1 := hb1.size; (try simp only [World.size_alloc, World.size_setCell, World.size_drew, sizeDrewN] at hz1 hc1 hf1)
        go_wp2_with fail
        go_ret
        exact ⟨ret_b HNO.out.symm, by (repeat (first | with_reducible assumption | with_reducible exact Below.refl _ _ | with_reducible refine Below.drew ?_ | with_reducible refine belowDrewN ?_ _ | ((with_reducible refine Below.setCell ?_ ?_ _); rotate_left; focus (first | omega | (simp; done) | (simp; omega))) | ((with_reducible refine Below.alloc ?_ ?_ _); rotate_left; focus (first | omega | (simp; done) | (simp; omega))) | ((with_reducible refine Below.trans ?_ (Below.mono hb1 ?_)); rotate_left; focus (first | omega | (simp; done) | (simp; omega)))))⟩
    · have hk2 : j = ms.length := by omega
      subst hk2
      have hd2 : ds.take ms.length = ds := by rw [HL.out, List.take_length]
      have hfin : areB ds = decide ((Dat.countL (ds.take ms.length) : Int) ≤ 600) := by
        rw [hd2] at hdp hpre ⊢
        by_cases h : Dat.countL ds ≤ 600
        · rw [areB_yes ⟨h, hdp, hpre⟩]; simp; omega
        · rw [areB_no fun hp => h hp.1]; simp; omega
      have HD2 := Lib.hid hd2; clear hd2; have HPRE := Lib.hid hpre; clear hpre; have HFIN := Lib.hid hfin; clear hfin
      go_wp2_with fail
      go_ret
      exact ⟨ret_b HFIN.out.symm, hb⟩
end Go.Proofs.YtoflfamfhpijcaaDoor
