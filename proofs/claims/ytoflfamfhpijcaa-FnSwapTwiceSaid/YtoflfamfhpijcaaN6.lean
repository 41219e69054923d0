/-
  Walks: IsDatum. No condition.
-/
import Derived.Test.YtoflfamfhpijcaaN5
set_option linter.unusedVariables false
set_option linter.unusedSimpArgs false
set_option maxRecDepth 100000
namespace Go.Proofs.Ytoflfamfhpijcaa
open Go.RowKit

def IsDatP (k n : Int) (s : ByteArray) (ds : List Dat) : Prop := 1 + Dat.countL ds ≤ 600 ∧ 1 + Dat.depthL ds ≤ 20 ∧ (Dat.mk k n s ds).ok
open Classical in
noncomputable def isDatB (k n : Int) (s : ByteArray) (ds : List Dat) : Bool := decide (IsDatP k n s ds)
theorem isDatB_yes {k n : Int} {s : ByteArray} {ds : List Dat} (h : IsDatP k n s ds) : isDatB k n s ds = true := by simp [isDatB, h]
theorem isDatB_no {k n : Int} {s : ByteArray} {ds : List Dat} (h : ¬ IsDatP k n s ds) : isDatB k n s ds = false := by simp [isDatB, h]

theorem iIsDatum_calls (k n : Int) (s : ByteArray) (ds : List Dat) (a : Option Addr) (cap : Nat) (ms : List M) (w : World) (hwf : (Dat.mk k n s ds).wf) (hB : Dat.countL ds ≤ 1000000000) (hi : Dat.IsL 31 ds ms) (hin : (M.sl a cap 4 31 ms).In w) :
    Calls Try.prog 19 #[.agg #[.int .i64 k, .int .i64 n, .string s, .slice a ms.length cap]] w (Ret (.bool (isDatB k n s ds)) w) := by
  have HI := Lib.hid hi; clear hi; have HIN := Lib.hid hin; clear hin; have HWF := Lib.hid hwf; clear hwf
  go_enter Try.func19, Try.ntmps19
  go_wp2_with fail
  refine (measure_calls ds k n s a cap ms 1 (w.heap.size + 1) 0 w _ HWF.out hB HI.out HIN.out (by (repeat (first | with_reducible assumption | with_reducible exact Below.refl _ _ | with_reducible refine Below.drew ?_ | with_reducible refine belowDrewN ?_ _ | ((with_reducible refine Below.setCell ?_ ?_ _); rotate_left; focus (first | omega | (simp; done) | (simp; omega))) | ((with_reducible refine Below.alloc ?_ ?_ _); rotate_left; focus (first | omega | (simp; done) | (simp; omega)))))) (by omega) (by omega) (by omega) (by omega) (by omega) (by simp [go_sem]) (by simp [go_sem])).mono ?_
  rintro e w1 ⟨bb, C', rfl, hbb, hbc, hlo, hhi, q', qf', ho2⟩
  have hbel : Below w.heap.size w w1 := ho2.low (by (repeat (first | with_reducible assumption | with_reducible exact Below.refl _ _ | with_reducible refine Below.drew ?_ | with_reducible refine belowDrewN ?_ _ | ((with_reducible refine Below.setCell ?_ ?_ _); rotate_left; focus (first | omega | (simp; done) | (simp; omega))) | ((with_reducible refine Below.alloc ?_ ?_ _); rotate_left; focus (first | omega | (simp; done) | (simp; omega)))))) (by omega)
  have hv : bb = isDatB k n s ds := by
    have hx : MsOk k n s ds 1 0 ↔ IsDatP k n s ds := by unfold MsOk IsDatP; constructor <;> (rintro ⟨h1, h2, h3⟩; exact ⟨by omega, by omega, h3⟩)
    cases bb with
    | true => exact (isDatB_yes (hx.1 (hbb.1 rfl))).symm
    | false => exact (isDatB_no fun h => by have := hbb.2 (hx.2 h); simp at this).symm
  have HBB := Lib.hid hbb; clear hbb; have HBC := Lib.hid hbc; clear hbc; have HO2 := Lib.hid ho2; clear ho2; have HBEL := Lib.hid hbel; clear hbel
  go_wp2_with fail
  go_ret
  exact ⟨rfl, HBEL.out⟩
theorem sIsDatum_calls (k n : Int) (s : ByteArray) (ds : List Dat) (a : Option Addr) (cap : Nat) (ms : List M) (w : World) (hwf : (Dat.mk k n s ds).wf) (hB : Dat.countL ds ≤ 1000000000) (hi : Dat.IsL 31 ds ms) (hin : (M.sl a cap 4 31 ms).In w) :
    Calls Try.prog 20 #[.agg #[.int .i64 k, .int .i64 n, .string s, .slice a ms.length cap]] w (Ret (.bool (isDatB k n s ds)) w) := by
  have hdl := Dat.depthL_le ds
  have HI := Lib.hid hi; clear hi; have HIN := Lib.hid hin; clear hin; have HWF := Lib.hid hwf; clear hwf
  go_enter Try.func20, Try.ntmps20
  go_wp2_with fail
  refine (l1Few_calls ds k n s a cap ms (w.heap.size + 1) 600 w _ hB HI.out HIN.out (by (repeat (first | with_reducible assumption | with_reducible exact Below.refl _ _ | with_reducible refine Below.drew ?_ | with_reducible refine belowDrewN ?_ _ | ((with_reducible refine Below.setCell ?_ ?_ _); rotate_left; focus (first | omega | (simp; done) | (simp; omega))) | ((with_reducible refine Below.alloc ?_ ?_ _); rotate_left; focus (first | omega | (simp; done) | (simp; omega)))))) (by omega) (by omega) (by omega) (by simp [go_sem]) (by simp [go_sem])).mono ?_
  rintro e w1 ⟨rfl, q', qf', ho1⟩
  obtain ⟨hc1, hf1⟩ := ocell ho1
  have hz1 := ho1.size
  simp only [World.size_alloc] at hz1 hc1
  have hb1 : Below w.heap.size w w1 := ho1.low (by (repeat (first | with_reducible assumption | with_reducible exact Below.refl _ _ | with_reducible refine Below.drew ?_ | with_reducible refine belowDrewN ?_ _ | ((with_reducible refine Below.setCell ?_ ?_ _); rotate_left; focus (first | omega | (simp; done) | (simp; omega))) | ((with_reducible refine Below.alloc ?_ ?_ _); rotate_left; focus (first | omega | (simp; done) | (simp; omega)))))) (by omega)
  have q0 : w1.cell? ⟨w.heap.size, 0, none⟩ = some (.int .i64 k) := by rw [hc1 _ _ (by omega) (by omega)]; simp [go_sem]
  have q1 : w1.cell? ⟨w.heap.size, 1, none⟩ = some (.int .i64 n) := by rw [hc1 _ _ (by omega) (by omega)]; simp [go_sem]
  have q2 : w1.cell? ⟨w.heap.size, 2, none⟩ = some (.string s) := by rw [hc1 _ _ (by omega) (by omega)]; simp [go_sem]
  have q3 : w1.cell? ⟨w.heap.size, 3, none⟩ = some (.slice a ms.length cap) := by rw [hc1 _ _ (by omega) (by omega)]; simp [go_sem]
  clear hc1 hf1
  have HO1 := Lib.hid ho1; clear ho1
  by_cases hfew : ((1 + Dat.countL ds : Nat) : Int) ≤ 600
  · have hpos : 0 ≤ few 600 (1 + Dat.countL ds) := by rw [few_pos hfew]; omega
    go_wp2_with fail
    refine (sDepthOf_calls ds k n s a cap ms _ (by omega) HI.out (HIN.out.below hb1)).mono ?_
    rintro e w2 ⟨rfl, hb2⟩
    obtain ⟨hc2, hf2⟩ := bcell hb2; have hz2 := hb2.size; (try simp only [World.size_alloc, World.size_setCell, World.size_drew, sizeDrewN] at hz2 hc2 hf2)
    have q0' := (hc2 _ _ (by omega)).trans q0
    have q1' := (hc2 _ _ (by omega)).trans q1
    have q2' := (hc2 _ _ (by omega)).trans q2
    have q3' := (hc2 _ _ (by omega)).trans q3
    by_cases hdp : ((1 + Dat.depthL ds : Nat) : Int) ≤ 20
    · go_wp2_with fail
      refine (l1Nodes_calls ds k n s a cap ms _ HWF.out HI.out (HIN.out.below (by (repeat (first | with_reducible assumption | with_reducible exact Below.refl _ _ | with_reducible refine Below.drew ?_ | with_reducible refine belowDrewN ?_ _ | ((with_reducible refine Below.setCell ?_ ?_ _); rotate_left; focus (first | omega | (simp; done) | (simp; omega))) | ((with_reducible refine Below.alloc ?_ ?_ _); rotate_left; focus (first | omega | (simp; done) | (simp; omega))) | ((with_reducible refine Below.trans ?_ (Below.mono hb1 ?_)); rotate_left; focus (first | omega | (simp; done) | (simp; omega))) | ((with_reducible refine Below.trans ?_ (Below.mono hb2 ?_)); rotate_left; focus (first | omega | (simp; done) | (simp; omega)))))))).mono ?_
      rintro e w3 ⟨rfl, hb3⟩
      obtain ⟨hc3, hf3⟩ := bcell hb3; have hz3 := hb3.size; (try simp only [World.size_alloc, World.size_setCell, World.size_drew, sizeDrewN] at hz3 hc3 hf3)
      have hv : (Dat.mk k n s ds).okB = isDatB k n s ds := by
        cases hq : (Dat.mk k n s ds).okB with
        | true => exact (isDatB_yes ⟨by omega, by omega, Dat.okB_true.1 hq⟩).symm
        | false => exact (isDatB_no fun h => Dat.okB_false.1 hq h.2.2).symm
      go_wp2_with fail
      go_ret
      exact ⟨rfl, by (repeat (first | with_reducible assumption | with_reducible exact Below.refl _ _ | with_reducible refine Below.drew ?_ | with_reducible refine belowDrewN ?_ _ | ((with_reducible refine Below.setCell ?_ ?_ _); rotate_left; focus (first | omega | (simp; done) | (simp; omega))) | ((with_reducible refine Below.alloc ?_ ?_ _); rotate_left; focus (first | omega | (simp; done) | (simp; omega))) | ((with_reducible refine Below.trans ?_ (Below.mono hb1 ?_)); rotate_left; focus (first | omega | (simp; done) | (simp; omega))) | ((with_reducible refine Below.trans ?_ (Below.mono hb2 ?_)); rotate_left; focus (first | omega | (simp; done) | (simp; omega))) | ((with_reducible refine Below.trans ?_ (Below.mono hb3 ?_)); rotate_left; focus (first | omega | (simp; done) | (simp; omega)))))⟩
    · have hno := isDatB_no (k := k) (n := n) (s := s) (ds := ds) fun h => hdp (by have := h.2.1; omega)
      have HNO := Lib.hid hno; clear hno
      go_wp2_with fail
      go_ret
      exact ⟨ret_b HNO.out.symm, by (repeat (first | with_reducible assumption | with_reducible exact Below.refl _ _ | with_reducible refine Below.drew ?_ | with_reducible refine belowDrewN ?_ _ | ((with_reducible refine Below.setCell ?_ ?_ _); rotate_left; focus (first | omega | (simp; done) | (simp; omega))) | ((with_reducible refine Below.alloc ?_ ?_ _); rotate_left; focus (first | omega | (simp; done) | (simp; omega))) | ((with_reducible refine Below.trans ?_ (Below.mono hb1 ?_)); rotate_left; focus (first | omega | (simp; done) | (simp; omega))) | ((with_reducible refine Below.trans ?_ (Below.mono hb2 ?_)); rotate_left; focus (first | omega | (simp; done) | (simp; omega)))))⟩
  · have hneg : ¬ 0 ≤ few 600 (1 + Dat.countL ds) := by rw [few_neg hfew]; omega
    have hno := isDatB_no (k := k) (n := n) (s := s) (ds := ds) fun h => hfew (by have := h.1; omega)
    have HNO := Lib.hid hno; clear hno
    go_wp2_with fail
    go_ret
    exact ⟨ret_b HNO.out.symm, by (repeat (first | with_reducible assumption | with_reducible exact Below.refl _ _ | with_reducible refine Below.drew ?_ | with_reducible refine belowDrewN ?_ _ | ((with_reducible refine Below.setCell ?_ ?_ _); rotate_left; focus (first | omega | (simp; done) | (simp; omega))) | ((with_reducible refine Below.alloc ?_ ?_ _); rotate_left; focus (first | omega | (simp; done) | (simp; omega))) | ((with_reducible refine Below.trans ?_ (Below.mono hb1 ?_)); rotate_left; focus (first | omega | (simp; done) | (simp; omega)))))⟩
end Go.Proofs.Ytoflfamfhpijcaa
