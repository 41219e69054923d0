/-
  Walks: IsSyntax. No condition.
-/
import Derived.Test.YtoflfamfhpijcaaDoorY8
set_option linter.unusedVariables false
set_option linter.unusedSimpArgs false
set_option maxRecDepth 100000
namespace Go.Proofs.YtoflfamfhpijcaaDoor
open Go.RowKit

def IsSynP (k n : Int) (s : ByteArray) (x : List Int) (ds : List Syn) : Prop := 1 + Syn.countL ds ≤ 2000 ∧ 1 + Syn.depthL ds ≤ 40 ∧ (Syn.mk k n s x ds).ok
open Classical in
noncomputable def isSynB (k n : Int) (s : ByteArray) (x : List Int) (ds : List Syn) : Bool := decide (IsSynP k n s x ds)
theorem isSynB_yes {k n : Int} {s : ByteArray} {x : List Int} {ds : List Syn} (h : IsSynP k n s x ds) : isSynB k n s x ds = true := by simp [isSynB, h]
theorem isSynB_no {k n : Int} {s : ByteArray} {x : List Int} {ds : List Syn} (h : ¬ IsSynP k n s x ds) : isSynB k n s x ds = false := by simp [isSynB, h]
theorem isSynB_iff {k n : Int} {s : ByteArray} {x : List Int} {ds : List Syn} : isSynB k n s x ds = true ↔ IsSynP k n s x ds := by simp [isSynB]

theorem iIsSyntax_calls (k n : Int) (s : ByteArray) (x : List Int) (ds : List Syn) (xa : Option Addr) (xc : Nat) (a : Option Addr) (cap : Nat) (ms : List M) (w : World) (hwf : (Syn.mk k n s x ds).wf) (hB : Syn.countL ds ≤ 1000000000) (hi : Syn.IsL 69 ds ms) (hown : (SynOwn 69 xa xc x a cap ms).In w) :
    Calls Tryd.prog 84 #[.agg #[.int .i64 k, .int .i64 n, .string s, .slice xa x.length xc, .slice a ms.length cap]] w (Ret (.bool (isSynB k n s x ds)) w) := by
  have HI := Lib.hid hi; clear hi; have HOWN := Lib.hid hown; clear hown; have HWF := Lib.hid hwf; clear hwf
  go_enter Tryd.func84, Tryd.ntmps84
  go_wp2_with fail
  refine (measureSyntax_calls ds k n s x xa xc a cap ms 1 (w.heap.size + 1) 0 w _ HWF.out hB HI.out (SynIn_x HOWN.out) (SynIn_ms HOWN.out) (by (repeat (first | with_reducible assumption | with_reducible exact Below.refl _ _ | with_reducible refine Below.drew ?_ | with_reducible refine belowDrewN ?_ _ | ((with_reducible refine Below.setCell ?_ ?_ _); rotate_left; focus (first | omega | (simp; done) | (simp; omega))) | ((with_reducible refine Below.alloc ?_ ?_ _); rotate_left; focus (first | omega | (simp; done) | (simp; omega)))))) (by omega) (by omega) (by omega) (by omega) (by omega) (by simp [go_sem]) (by simp [go_sem])).mono ?_
  rintro e w1 ⟨bb, C', rfl, hbb, hbc, hlo, hhi, q', qf', ho2⟩
  have hbel : Below w.heap.size w w1 := ho2.low (by (repeat (first | with_reducible assumption | with_reducible exact Below.refl _ _ | with_reducible refine Below.drew ?_ | with_reducible refine belowDrewN ?_ _ | ((with_reducible refine Below.setCell ?_ ?_ _); rotate_left; focus (first | omega | (simp; done) | (simp; omega))) | ((with_reducible refine Below.alloc ?_ ?_ _); rotate_left; focus (first | omega | (simp; done) | (simp; omega)))))) (by omega)
  have hv : bb = isSynB k n s x ds := by
    have hx : MsOkS k n s x ds 1 0 ↔ IsSynP k n s x ds := by unfold MsOkS IsSynP; constructor <;> (rintro ⟨h1, h2, h3⟩; exact ⟨by omega, by omega, h3⟩)
    cases bb with
    | true => exact (isSynB_yes (hx.1 (hbb.1 rfl))).symm
    | false => exact (isSynB_no fun h => by have := hbb.2 (hx.2 h); simp at this).symm
  have HBB := Lib.hid hbb; clear hbb; have HBC := Lib.hid hbc; clear hbc; have HO2 := Lib.hid ho2; clear ho2; have HBEL := Lib.hid hbel; clear hbel
  go_wp2_with fail
  go_ret
  exact ⟨rfl, HBEL.out⟩
theorem sIsSyntax_calls (k n : Int) (s : ByteArray) (x : List Int) (ds : List Syn) (xa : Option Addr) (xc : Nat) (a : Option Addr) (cap : Nat) (ms : List M) (w : World) (hwf : (Syn.mk k n s x ds).wf) (hB : Syn.countL ds ≤ 1000000000) (hi : Syn.IsL 69 ds ms) (hown : (SynOwn 69 xa xc x a cap ms).In w) :
    Calls Tryd.prog 81 #[.agg #[.int .i64 k, .int .i64 n, .string s, .slice xa x.length xc, .slice a ms.length cap]] w (Ret (.bool (isSynB k n s x ds)) w) := by
  have hdl := Syn.depthL_le ds
  have hx := SynIn_x hown
  have hin := SynIn_ms hown
  clear hown
  have HI := Lib.hid hi; clear hi; have HIN := Lib.hid hin; clear hin; have HWF := Lib.hid hwf; clear hwf; have HX := Lib.hid hx; clear hx
  go_enter Tryd.func81, Tryd.ntmps81
  go_wp2_with fail
  refine (l2Few_calls ds k n s x xa xc a cap ms (w.heap.size + 1) 2000 w _ hB HI.out HIN.out (by (repeat (first | with_reducible assumption | with_reducible exact Below.refl _ _ | with_reducible refine Below.drew ?_ | with_reducible refine belowDrewN ?_ _ | ((with_reducible refine Below.setCell ?_ ?_ _); rotate_left; focus (first | omega | (simp; done) | (simp; omega))) | ((with_reducible refine Below.alloc ?_ ?_ _); rotate_left; focus (first | omega | (simp; done) | (simp; omega)))))) (by omega) (by omega) (by omega) (by simp [go_sem]) (by simp [go_sem])).mono ?_
  rintro e w1 ⟨rfl, q', qf', ho1⟩
  obtain ⟨hc1, hf1⟩ := ocell ho1
  have hz1 := ho1.size
  simp only [World.size_alloc] at hz1 hc1
  have hb1 : Below w.heap.size w w1 := ho1.low (by (repeat (first | with_reducible assumption | with_reducible exact Below.refl _ _ | with_reducible refine Below.drew ?_ | with_reducible refine belowDrewN ?_ _ | ((with_reducible refine Below.setCell ?_ ?_ _); rotate_left; focus (first | omega | (simp; done) | (simp; omega))) | ((with_reducible refine Below.alloc ?_ ?_ _); rotate_left; focus (first | omega | (simp; done) | (simp; omega)))))) (by omega)
  have q0 : w1.cell? ⟨w.heap.size, 0, none⟩ = some (.int .i64 k) := by rw [hc1 _ _ (by omega) (by omega)]; simp [go_sem]
  have q1 : w1.cell? ⟨w.heap.size, 1, none⟩ = some (.int .i64 n) := by rw [hc1 _ _ (by omega) (by omega)]; simp [go_sem]
  have q2 : w1.cell? ⟨w.heap.size, 2, none⟩ = some (.string s) := by rw [hc1 _ _ (by omega) (by omega)]; simp [go_sem]
  have q3 : w1.cell? ⟨w.heap.size, 3, none⟩ = some (.slice xa x.length xc) := by rw [hc1 _ _ (by omega) (by omega)]; simp [go_sem]
  have q4 : w1.cell? ⟨w.heap.size, 4, none⟩ = some (.slice a ms.length cap) := by rw [hc1 _ _ (by omega) (by omega)]; simp [go_sem]
  clear hc1 hf1
  have HO1 := Lib.hid ho1; clear ho1
  by_cases hfew : ((1 + Syn.countL ds : Nat) : Int) ≤ 2000
  · have hpos : 0 ≤ few 2000 (1 + Syn.countL ds) := by rw [few_pos hfew]; omega
    go_wp2_with fail
    refine (l2Depth_calls ds k n s x xa xc a cap ms _ (by omega) HI.out (HIN.out.below hb1)).mono ?_
    rintro e w2 ⟨rfl, hb2⟩
    obtain ⟨hc2, hf2⟩ := bcell hb2; have hz2 := hb2.size; (try simp only [World.size_alloc, World.size_setCell, World.size_drew, sizeDrewN] at hz2 hc2 hf2)
    have q0' := (hc2 _ _ (by omega)).trans q0
    have q1' := (hc2 _ _ (by omega)).trans q1
    have q2' := (hc2 _ _ (by omega)).trans q2
    have q3' := (hc2 _ _ (by omega)).trans q3
    have q4' := (hc2 _ _ (by omega)).trans q4
    by_cases hdp : ((1 + Syn.depthL ds : Nat) : Int) ≤ 40
    · go_wp2_with fail
      refine (l2Nodes_calls ds k n s x xa xc a cap ms _ HWF.out HI.out (HX.out.below (by (repeat (first | with_reducible assumption | with_reducible exact Below.refl _ _ | with_reducible refine Below.drew ?_ | with_reducible refine belowDrewN ?_ _ | ((with_reducible refine Below.setCell ?_ ?_ _); rotate_left; focus (first | omega | (simp; done) | (simp; omega))) | ((with_reducible refine Below.alloc ?_ ?_ _); rotate_left; focus (first | omega | (simp; done) | (simp; omega))) | ((with_reducible refine Below.trans ?_ (Below.mono hb1 ?_)); rotate_left; focus (first | omega | (simp; done) | (simp; omega))) | ((with_reducible refine Below.trans ?_ (Below.mono hb2 ?_)); rotate_left; focus (first | omega | (simp; done) | (simp; omega))))))) (HIN.out.below (by (repeat (first | with_reducible assumption | with_reducible exact Below.refl _ _ | with_reducible refine Below.drew ?_ | with_reducible refine belowDrewN ?_ _ | ((with_reducible refine Below.setCell ?_ ?_ _); rotate_left; focus (first | omega | (simp; done) | (simp; omega))) | ((with_reducible refine Below.alloc ?_ ?_ _); rotate_left; focus (first | omega | (simp; done) | (simp; omega))) | ((with_reducible refine Below.trans ?_ (Below.mono hb1 ?_)); rotate_left; focus (first | omega | (simp; done) | (simp; omega))) | ((with_reducible refine Below.trans ?_ (Below.mono hb2 ?_)); rotate_left; focus (first | omega | (simp; done) | (simp; omega)))))))).mono ?_
      rintro e w3 ⟨rfl, hb3⟩
      obtain ⟨hc3, hf3⟩ := bcell hb3; have hz3 := hb3.size; (try simp only [World.size_alloc, World.size_setCell, World.size_drew, sizeDrewN] at hz3 hc3 hf3)
      have hv : (Syn.mk k n s x ds).okB = isSynB k n s x ds := by
        cases hq : (Syn.mk k n s x ds).okB with
        | true => exact (isSynB_yes ⟨by omega, by omega, Syn.okB_true.1 hq⟩).symm
        | false => exact (isSynB_no fun h => Syn.okB_false.1 hq h.2.2).symm
      go_wp2_with fail
      go_ret
      exact ⟨rfl, by (repeat (first | with_reducible assumption | with_reducible exact Below.refl _ _ | with_reducible refine Below.drew ?_ | with_reducible refine belowDrewN ?_ _ | ((with_reducible refine Below.setCell ?_ ?_ _); rotate_left; focus (first | omega | (simp; done) | (simp; omega))) | ((with_reducible refine Below.alloc ?_ ?_ _); rotate_left; focus (first | omega | (simp; done) | (simp; omega))) | ((with_reducible refine Below.trans ?_ (Below.mono hb1 ?_)); rotate_left; focus (first | omega | (simp; done) | (simp; omega))) | ((with_reducible refine Below.trans ?_ (Below.mono hb2 ?_)); rotate_left; focus (first | omega | (simp; done) | (simp; omega))) | ((with_reducible refine Below.trans ?_ (Below.mono hb3 ?_)); rotate_left; focus (first | omega | (simp; done) | (simp; omega)))))⟩
    · have hno := isSynB_no (k := k) (n := n) (s := s) (x := x) (ds := ds) fun h => hdp (by have := h.2.1; omega)
      have HNO := Lib.hid hno; clear hno
      go_wp2_with fail
      go_ret
      exact ⟨ret_b HNO.out.symm, by (repeat (first | with_reducible assumption | with_reducible exact Below.refl _ _ | with_reducible refine Below.drew ?_ | with_reducible refine belowDrewN ?_ _ | ((with_reducible refine Below.setCell ?_ ?_ _); rotate_left; focus (first | omega | (simp; done) | (simp; omega))) | ((with_reducible refine Below.alloc ?_ ?_ _); rotate_left; focus (first | omega | (simp; done) | (simp; omega))) | ((with_reducible refine Below.trans ?_ (Below.mono hb1 ?_)); rotate_left; focus (first | omega | (simp; done) | (simp; omega))) | ((with_reducible refine Below.trans ?_ (Below.mono hb2 ?_)); rotate_left; focus (first | omega | (simp; done) | (simp; omega)))))⟩
  · have hneg : ¬ 0 ≤ few 2000 (1 + Syn.countL ds) := by rw [few_neg hfew]; omega
    have hno := isSynB_no (k := k) (n := n) (s := s) (x := x) (ds := ds) fun h => hfew (by have := h.1; omega)
    have HNO := Lib.hid hno; clear hno
    go_wp2_with fail
    go_ret
    exact ⟨ret_b HNO.out.symm, by (repeat (first | with_reducible assumption | with_reducible exact Below.refl _ _ | with_reducible refine Below.drew ?_ | with_reducible refine belowDrewN ?_ _ | ((with_reducible refine Below.setCell ?_ ?_ _); rotate_left; focus (first | omega | (simp; done) | (simp; omega))) | ((with_reducible refine Below.alloc ?_ ?_ _); rotate_left; focus (first | omega | (simp; done) | (simp; omega))) | ((with_reducible refine Below.trans ?_ (Below.mono hb1 ?_)); rotate_left; focus (first | omega | (simp; done) | (simp; omega)))))⟩
/-- an identifier -/
noncomputable def isIdB (k n : Int) (s : ByteArray) (x : List Int) (ds : List Syn) : Bool := (k == 1) && isSynB k n s x ds
def dotsS : ByteArray := ⟨#[46, 46, 46]⟩
open Classical in
noncomputable def isDotsB (k : Int) (s : ByteArray) : Bool := (k == 1) && decide (s = dotsS)
end Go.Proofs.YtoflfamfhpijcaaDoor
