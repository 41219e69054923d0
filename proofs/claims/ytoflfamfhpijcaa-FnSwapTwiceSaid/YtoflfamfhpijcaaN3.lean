/-
  Walks: all nodes of a datum. No condition.
-/
import Derived.Test.YtoflfamfhpijcaaN2
import Derived.Test.YtoflfamfhpijcaaD1
set_option linter.unusedVariables false
set_option linter.unusedSimpArgs false
set_option maxRecDepth 100000
namespace Go.Proofs.Ytoflfamfhpijcaa
open Go.RowKit

mutual
def Dat.ok : Dat → Prop
  | .mk k n s ds => nodeB k n s ds.length = true ∧ Dat.okL ds
def Dat.okL : List Dat → Prop
  | [] => True
  | d :: r => d.ok ∧ Dat.okL r
end
theorem Dat.okL_iff {ds : List Dat} : Dat.okL ds ↔ ∀ d ∈ ds, d.ok := by
  induction ds with
  | nil => simp [Dat.okL]
  | cons d r ih => simp [Dat.okL, ih]
theorem Dat.ok_mk {k n : Int} {s : ByteArray} {ds : List Dat} : (Dat.mk k n s ds).ok ↔ nodeB k n s ds.length = true ∧ ∀ d ∈ ds, d.ok := by rw [← Dat.okL_iff]; rfl
open Classical in
noncomputable def Dat.okB (d : Dat) : Bool := decide d.ok
theorem Dat.okB_true {d : Dat} : d.okB = true ↔ d.ok := by simp [Dat.okB]
theorem Dat.okB_false {d : Dat} : d.okB = false ↔ ¬ d.ok := by simp [Dat.okB]
theorem ok_take {ds : List Dat} {k : Nat} {d : Dat} (h : ∀ x ∈ ds.take k, x.ok) (hd : ds[k]? = some d) (hk : d.ok) : ∀ x ∈ ds.take (k + 1), x.ok := by
  rw [take_snoc hd]
  intro x hx
  rcases List.mem_append.1 hx with hx | hx
  · exact h x hx
  · simp at hx; subst hx; exact hk

def NdDs (ds : List Dat) : Prop := ∀ (k n : Int) (s : ByteArray) (a : Option Addr) (cap : Nat) (ms : List M) (w : World), (Dat.mk k n s ds).wf → Dat.IsL 31 ds ms → (M.sl a cap 4 31 ms).In w →
    Calls Try.prog 69 #[.agg #[.int .i64 k, .int .i64 n, .string s, .slice a ms.length cap]] w (Ret (.bool (Dat.mk k n s ds).okB) w)
theorem l1Nodes_calls : ∀ ds, NdDs ds := by
  refine Dat.inductL fun ds ih => ?_
  intro k n s a cap ms w hwf hi hin
  have hl := hi.length
  have hcap := hin.len
  have hs : s.size ≤ 9223372036854775807 := by have := hwf.2.2.1; omega
  have hwl := hwf.2.2.2
  clear hwf
  have IH := Lib.hid ih; clear ih; have HIN := Lib.hid hin; clear hin; have HI := Lib.hid hi; clear hi; have HL := Lib.hid hl; clear hl; have HWL := Lib.hid hwl; clear hwl
  go_enter Try.func69, Try.ntmps69
  go_wp2_with fail
  go_loopw [8] (fun i wr => ∃ (j : Nat), j ≤ ms.length ∧ i = .int .i64 j ∧ (∀ x ∈ ds.take j, x.ok) ∧ (wr.cell? ⟨w.heap.size, 0, none⟩ = some (.int .i64 k) ∧ wr.cell? ⟨w.heap.size, 1, none⟩ = some (.int .i64 n) ∧ wr.cell? ⟨w.heap.size, 2, none⟩ = some (.string s) ∧ wr.cell? ⟨w.heap.size, 3, none⟩ = some (.slice a ms.length cap)) ∧ Below w.heap.size w wr ∧ w.heap.size + 1 ≤ wr.heap.size) (fun i _ => ms.length - (intOf i).toNat)
  case atStart => exact ⟨0, Nat.zero_le _, rfl, by simp, by simp [go_sem], by (repeat (first | with_reducible assumption | with_reducible exact Below.refl _ _ | with_reducible refine Below.drew ?_ | with_reducible refine belowDrewN ?_ _ | ((with_reducible refine Below.setCell ?_ ?_ _); rotate_left; focus (first | omega | (simp; done) | (simp; omega))) | ((with_reducible refine Below.alloc ?_ ?_ _); rotate_left; focus (first | omega | (simp; done) | (simp; omega))))), by simp⟩
  case round =>
    obtain ⟨j, hj, rfl, hpre, ⟨q0, q1, q2, q3⟩, hb, hsz⟩ := hrel
    have p0 : w.heap.size < wr.heap.size := by omega
    by_cases hlt : j < ms.length
    · obtain ⟨b, off, k1, n1, s1, ds1, a1, cap1, ms1, rfl, hd, hi1, hin1, c0, c1, c2, c3⟩ := Dat.elem (HIN.out.below hb) HI.out j hlt
      have hw1 := Dat.wfL_get HWL.out hd
      have hmem := List.mem_of_getElem? hd
      by_cases hok : (Dat.mk k1 n1 s1 ds1).ok
      · have hokb : (Dat.mk k1 n1 s1 ds1).okB = true := Dat.okB_true.2 hok
        have hpre2 := ok_take hpre hd hok
        have HD := Lib.hid hd; clear hd; have HI1 := Lib.hid hi1; clear hi1; have HIN1 := Lib.hid hin1; clear hin1; have HW1 := Lib.hid hw1; clear hw1; have HMEM := Lib.hid hmem; clear hmem; have HPRE := Lib.hid hpre; clear hpre; have HPRE2 := Lib.hid hpre2; clear hpre2; have HOK := Lib.hid hok; clear hok
        go_wp2_with fail
        refine (IH.out k1 n1 s1 ds1 HMEM.out k1 n1 s1 a1 cap1 ms1 _ HW1.out HI1.out (HIN1.out.below (by (repeat (first | with_reducible assumption | with_reducible exact Below.refl _ _ | with_reducible refine Below.drew ?_ | with_reducible refine belowDrewN ?_ _ | ((with_reducible refine Below.setCell ?_ ?_ _); rotate_left; focus (first | omega | (simp; done) | (simp; omega))) | ((with_reducible refine Below.alloc ?_ ?_ _); rotate_left; focus (first | omega | (simp; done) | (simp; omega)))))))).mono ?_
        rintro e w1 ⟨rfl, hb1⟩
        obtain ⟨hc1, hf1⟩ := bcell hb1; have hz1 := hb1.size; (try simp only [World.size_alloc, World.size_setCell, World.size_drew, sizeDrewN] at hz1 hc1 hf1)
        have q0' : w1.cell? ⟨w.heap.size, 0, none⟩ = some (.int .i64 k) := by simp (disch := omega) [hc1, q0, go_sem]
        have q1' : w1.cell? ⟨w.heap.size, 1, none⟩ = some (.int .i64 n) := by simp (disch := omega) [hc1, q1, go_sem]
        have q2' : w1.cell? ⟨w.heap.size, 2, none⟩ = some (.string s) := by simp (disch := omega) [hc1, q2, go_sem]
        have q3' : w1.cell? ⟨w.heap.size, 3, none⟩ = some (.slice (some ⟨b, off, none⟩) ms.length cap) := by simp (disch := omega) [hc1, q3, go_sem]
        go_wp2_with fail
        go_roundw
        case rel => exact ⟨j + 1, by omega, by go_num, HPRE2.out, ⟨q0', q1', q2', q3'⟩, by (repeat (first | with_reducible assumption | with_reducible exact Below.refl _ _ | with_reducible refine Below.drew ?_ | with_reducible refine belowDrewN ?_ _ | ((with_reducible refine Below.setCell ?_ ?_ _); rotate_left; focus (first | omega | (simp; done) | (simp; omega))) | ((with_reducible refine Below.alloc ?_ ?_ _); rotate_left; focus (first | omega | (simp; done) | (simp; omega))) | ((with_reducible refine Below.trans ?_ (Below.mono hb1 ?_)); rotate_left; focus (first | omega | (simp; done) | (simp; omega))))), by omega⟩
        case measure => simp [intOf]; omega
      · have hokb : (Dat.mk k1 n1 s1 ds1).okB = false := Dat.okB_false.2 hok
        have hno : (Dat.mk k n s ds).okB = false := Dat.okB_false.2 fun h => hok ((Dat.ok_mk.1 h).2 _ hmem)
        have HD := Lib.hid hd; clear hd; have HI1 := Lib.hid hi1; clear hi1; have HIN1 := Lib.hid hin1; clear hin1; have HW1 := Lib.hid hw1; clear hw1; have HMEM := Lib.hid hmem; clear hmem; have HPRE := Lib.hid hpre; clear hpre; have HOK := Lib.hid hok; clear hok; have HNO := Lib.hid hno; clear hno
        go_wp2_with fail
        refine (IH.out k1 n1 s1 ds1 HMEM.out k1 n1 s1 a1 cap1 ms1 _ HW1.out HI1.out (HIN1.out.below (by (repeat (first | with_reducible assumption | with_reducible exact Below.refl _ _ | with_reducible refine Below.drew ?_ | with_reducible refine belowDrewN ?_ _ | ((with_reducible refine Below.setCell ?_ ?_ _); rotate_left; focus (first | omega | (simp; done) | (simp; omega))) | ((with_reducible refine Below.alloc ?_ ?_ _); rotate_left; focus (first | omega | (simp; done) | (simp; omega)))))))).mono ?_
        rintro e w1 ⟨rfl, hb1⟩
        obtain ⟨hc1, hf1⟩ := bcell hb1; have hz1 := hb1.size; (try simp only [World.size_alloc, World.size_setCell, World.size_drew, sizeDrewN] at hz1 hc1 hf1)
        go_wp2_with fail
        go_ret
        exact ⟨ret_b HNO.out.symm, by (repeat (first | with_reducible assumption | with_reducible exact Below.refl _ _ | with_reducible refine Below.drew ?_ | with_reducible refine belowDrewN ?_ _ | ((with_reducible refine Below.setCell ?_ ?_ _); rotate_left; focus (first | omega | (simp; done) | (simp; omega))) | ((with_reducible refine Below.alloc ?_ ?_ _); rotate_left; focus (first | omega | (simp; done) | (simp; omega))) | ((with_reducible refine Below.trans ?_ (Below.mono hb1 ?_)); rotate_left; focus (first | omega | (simp; done) | (simp; omega)))))⟩
    · have hk2 : j = ms.length := by omega
      subst hk2
      have hfin : (Dat.mk k n s ds).okB = nodeB k n s ms.length := by
        rw [HL.out, List.take_length] at hpre
        cases hq : nodeB k n s ms.length with
        | true => rw [Dat.okB_true, Dat.ok_mk, ← HL.out]; exact ⟨hq, hpre⟩
        | false => rw [Dat.okB_false, Dat.ok_mk, ← HL.out, hq]; simp
      have HPRE := Lib.hid hpre; clear hpre; have HFIN := Lib.hid hfin; clear hfin
      go_wp2_with fail
      refine (l1Node_calls k n s ms.length _ hs).mono ?_
      rintro e w1 ⟨rfl, rfl⟩
      go_wp2_with fail
      go_ret
      exact ⟨ret_b HFIN.out.symm, hb⟩
end Go.Proofs.Ytoflfamfhpijcaa
