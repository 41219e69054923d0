/-
  Texts set together by wip/tools/merge.py: B3, B4, B5, B7, B6, B9, MX5, MX6. No condition beyond those told with each.
-/
import Derived.Test.YtghbnehocggnnaaGe
/-
  Walks: AddBinding. No condition.
-/
set_option linter.unusedVariables false
set_option linter.unusedSimpArgs false
set_option maxRecDepth 100000
namespace Go.Proofs.Ytghbnehocggnnaa
open Go.RowKit

/-- may the binding be added -/
noncomputable def addOk (ds : List Bnd) (s : ByteArray) (x : List Int) (k n : Int) : Bool := areB ds && (bndOk s x k n && (decide (ds.length < 1000) && !clashB ds s x))
noncomputable def addTo (ds : List Bnd) (s : ByteArray) (x : List Int) (k n : Int) : List Bnd := if addOk ds s x k n = true then ds ++ [.mk s x k n] else ds
theorem addTo_no {ds : List Bnd} {s : ByteArray} {x : List Int} {k n : Int} (h : addOk ds s x k n = false) : addTo ds s x k n = ds := by simp [addTo, h]
theorem addTo_yes {ds : List Bnd} {s : ByteArray} {x : List Int} {k n : Int} (h : addOk ds s x k n = true) : addTo ds s x k n = ds ++ [.mk s x k n] := by simp [addTo, h]
theorem addTo_places (ds : List Bnd) (s : ByteArray) (x : List Int) (k n : Int) : Bnd.placesL (addTo ds s x k n) ≤ Bnd.placesL ds + (3 + x.length) := by
  unfold addTo; split
  · rw [Bnd.placesL_append]; simp [Bnd.placesL, Bnd.places]
  · omega
/-- What adding hands back: the bindings, and whether it was added. -/
def RetAdd (e : TypeId) (ds : List Bnd) (b : Bool) (w : World) (en : Ending) (w' : World) : Prop :=
  ∃ a cap ms, en = .returned (.tuple #[.slice a ms.length cap, .bool b]) ∧ Bnd.IsL ds ms ∧ (M.sl a cap 4 e ms).Mine w' w.heap.size ∧ Below w.heap.size w w'
theorem Bnd.wtX_snoc (ds : List Bnd) (d : Bnd) : Bnd.wtX (ds ++ [d]) = Bnd.wtX ds + d.wt := by rw [Bnd.wtX_append]; simp [Bnd.wtX]
set_option maxHeartbeats 4000000 in
theorem iAddBinding_calls (ds : List Bnd) (a : Option Addr) (cap : Nat) (ms : List M) (s : ByteArray) (x : List Int) (k n : Int) (xa : Option Addr) (xc : Nat) (w : World) (hwf : Bnd.wfL ds) (hs9 : ∀ d ∈ ds, d.s.size ≤ 1048576) (hsz9 : s.size ≤ 9223372036854775807)
    (hB : ds.length + Bnd.wtX ds ≤ 4000000) (hxB : x.length ≤ 4000000) (hi : Bnd.IsL ds ms) (hin : (M.sl a cap 4 33 ms).In w) (hx : (M.sl xa xc 1 3 (intM x)).In w) :
    Calls Try.prog 9 #[.slice a ms.length cap, .agg #[.string s, .slice xa x.length xc, .int .i64 k, .int .i64 n]] w (RetAdd 33 (addTo ds s x k n) (addOk ds s x k n) w) := by
  have hl := hi.length
  have hcap := hin.len
  have hxl := Ints.len hx
  have HI := Lib.hid hi; clear hi; have HIN := Lib.hid hin; clear hin; have HX := Lib.hid hx; clear hx; have HWF := Lib.hid hwf; clear hwf; have HS9 := Lib.hid hs9; clear hs9; have HL := Lib.hid hl; clear hl
  go_enter Try.func9, Try.ntmps9
  go_wp2_with fail
  refine (iAreBindings_calls ds a cap ms _ HWF.out HI.out (HIN.out.below (by (repeat (first | with_reducible assumption | with_reducible exact Below.refl _ _ | with_reducible refine Below.drew ?_ | with_reducible refine belowDrewN ?_ _ | ((with_reducible refine Below.setCell ?_ ?_ _); rotate_left; focus (first | omega | (simp; done) | (simp; omega))) | ((with_reducible refine Below.alloc ?_ ?_ _); rotate_left; focus (first | omega | (simp; done) | (simp; omega))))))) HS9.out).mono ?_
  rintro e w1 ⟨rfl, hb1⟩
  have hq1 : BBox w.heap.size s (.slice xa x.length xc) k n w1 := (BBox.new s (.slice xa x.length xc) k n w).below hb1 (by simp)
  obtain ⟨hc1, hf1⟩ := bcell hb1; have hz1 := hb1.size; (try simp only [World.size_alloc, World.size_setCell, World.size_drew, sizeDrewN] at hz1 hc1 hf1)
  obtain ⟨q0, q1, q2, q3, f0, f1, f2, f3⟩ := hq1
  have p0 : w.heap.size < w1.heap.size := by omega
  clear hc1 hf1
  cases hA : areB ds with
  | false =>
    have hno : addOk ds s x k n = false := by simp [addOk, hA]
    have HA := Lib.hid hA; clear hA; have HNO := Lib.hid hno; clear hno
    go_wp2_with fail
    refine (copyBindings_calls ds a cap ms _ hB HI.out (HIN.out.below (by (repeat (first | with_reducible assumption | with_reducible exact Below.refl _ _ | with_reducible refine Below.drew ?_ | with_reducible refine belowDrewN ?_ _ | ((with_reducible refine Below.setCell ?_ ?_ _); rotate_left; focus (first | omega | (simp; done) | (simp; omega))) | ((with_reducible refine Below.alloc ?_ ?_ _); rotate_left; focus (first | omega | (simp; done) | (simp; omega))) | ((with_reducible refine Below.trans ?_ (Below.mono hb1 ?_)); rotate_left; focus (first | omega | (simp; done) | (simp; omega)))))))).mono ?_
    rintro e w2 ⟨a2, cap2, ms2, rfl, hi2, hm2, hb2⟩
    have HI2 := Lib.hid hi2; clear hi2; have HM2 := Lib.hid hm2; clear hm2
    go_wp2_with fail
    go_ret2
    exact ⟨a2, cap2, ms2, by rw [HNO.out]; rfl, by rw [addTo_no HNO.out]; exact HI2.out, by (exact M.Mine.mono (M.Mine.keep HM2.out (fun b hb1 hb2 => by (try simp at hb1); simp (disch := (first | omega | (simp; omega))) only [heapSet, heapNew, heapDrew, heapDrewN])) (by first | omega | (simp; done) | (simp; omega))), by (repeat (first | with_reducible assumption | with_reducible exact Below.refl _ _ | with_reducible refine Below.drew ?_ | with_reducible refine belowDrewN ?_ _ | ((with_reducible refine Below.setCell ?_ ?_ _); rotate_left; focus (first | omega | (simp; done) | (simp; omega))) | ((with_reducible refine Below.alloc ?_ ?_ _); rotate_left; focus (first | omega | (simp; done) | (simp; omega))) | ((with_reducible refine Below.trans ?_ (Below.mono hb1 ?_)); rotate_left; focus (first | omega | (simp; done) | (simp; omega))) | ((with_reducible refine Below.trans ?_ (Below.mono hb2 ?_)); rotate_left; focus (first | omega | (simp; done) | (simp; omega)))))⟩
  | true =>
    go_wp2_with fail
    refine (iIsBinding_calls s x k n xa xc _ hsz9 (HX.out.below (by (repeat (first | with_reducible assumption | with_reducible exact Below.refl _ _ | with_reducible refine Below.drew ?_ | with_reducible refine belowDrewN ?_ _ | ((with_reducible refine Below.setCell ?_ ?_ _); rotate_left; focus (first | omega | (simp; done) | (simp; omega))) | ((with_reducible refine Below.alloc ?_ ?_ _); rotate_left; focus (first | omega | (simp; done) | (simp; omega))) | ((with_reducible refine Below.trans ?_ (Below.mono hb1 ?_)); rotate_left; focus (first | omega | (simp; done) | (simp; omega)))))))).mono ?_
    rintro e w2 ⟨rfl, hb2⟩
    have q2' : BBox w.heap.size s (.slice xa x.length xc) k n w2 := BBox.below ⟨q0, q1, q2, q3, f0, f1, f2, f3⟩ hb2 p0
    clear q0 q1 q2 q3 f0 f1 f2 f3
    obtain ⟨q0, q1, q2, q3, f0, f1, f2, f3⟩ := q2'
    obtain ⟨hc2, hf2⟩ := bcell hb2; have hz2 := hb2.size; (try simp only [World.size_alloc, World.size_setCell, World.size_drew, sizeDrewN] at hz2 hc2 hf2)
    have p1 : w.heap.size < w2.heap.size := by omega
    clear hc2 hf2
    cases hK : bndOk s x k n with
    | false =>
      have hno : addOk ds s x k n = false := by simp [addOk, hK]
      have HK := Lib.hid hK; clear hK; have HA := Lib.hid hA; clear hA; have HNO := Lib.hid hno; clear hno
      go_wp2_with fail
      refine (copyBindings_calls ds a cap ms _ hB HI.out (HIN.out.below (by (repeat (first | with_reducible assumption | with_reducible exact Below.refl _ _ | with_reducible refine Below.drew ?_ | with_reducible refine belowDrewN ?_ _ | ((with_reducible refine Below.setCell ?_ ?_ _); rotate_left; focus (first | omega | (simp; done) | (simp; omega))) | ((with_reducible refine Below.alloc ?_ ?_ _); rotate_left; focus (first | omega | (simp; done) | (simp; omega))) | ((with_reducible refine Below.trans ?_ (Below.mono hb1 ?_)); rotate_left; focus (first | omega | (simp; done) | (simp; omega))) | ((with_reducible refine Below.trans ?_ (Below.mono hb2 ?_)); rotate_left; focus (first | omega | (simp; done) | (simp; omega)))))))).mono ?_
      rintro e w3 ⟨a2, cap2, ms2, rfl, hi2, hm2, hb3⟩
      have HI2 := Lib.hid hi2; clear hi2; have HM2 := Lib.hid hm2; clear hm2
      go_wp2_with fail
      go_ret2
      exact ⟨a2, cap2, ms2, by rw [HNO.out]; rfl, by rw [addTo_no HNO.out]; exact HI2.out, by (exact M.Mine.mono (M.Mine.keep HM2.out (fun b hb1 hb2 => by (try simp at hb1); simp (disch := (first | omega | (simp; omega))) only [heapSet, heapNew, heapDrew, heapDrewN])) (by first | omega | (simp; done) | (simp; omega))), by (repeat (first | with_reducible assumption | with_reducible exact Below.refl _ _ | with_reducible refine Below.drew ?_ | with_reducible refine belowDrewN ?_ _ | ((with_reducible refine Below.setCell ?_ ?_ _); rotate_left; focus (first | omega | (simp; done) | (simp; omega))) | ((with_reducible refine Below.alloc ?_ ?_ _); rotate_left; focus (first | omega | (simp; done) | (simp; omega))) | ((with_reducible refine Below.trans ?_ (Below.mono hb1 ?_)); rotate_left; focus (first | omega | (simp; done) | (simp; omega))) | ((with_reducible refine Below.trans ?_ (Below.mono hb2 ?_)); rotate_left; focus (first | omega | (simp; done) | (simp; omega))) | ((with_reducible refine Below.trans ?_ (Below.mono hb3 ?_)); rotate_left; focus (first | omega | (simp; done) | (simp; omega)))))⟩
    | true =>
      by_cases h1000 : ds.length < 1000
      · have hm1000 : ¬ (1000 : Int) ≤ (ms.length : Int) := by rw [HL.out]; omega
        go_wp2_with fail
        refine (isBound_calls ds a cap ms s x xa xc _ HI.out (HIN.out.below (by (repeat (first | with_reducible assumption | with_reducible exact Below.refl _ _ | with_reducible refine Below.drew ?_ | with_reducible refine belowDrewN ?_ _ | ((with_reducible refine Below.setCell ?_ ?_ _); rotate_left; focus (first | omega | (simp; done) | (simp; omega))) | ((with_reducible refine Below.alloc ?_ ?_ _); rotate_left; focus (first | omega | (simp; done) | (simp; omega))) | ((with_reducible refine Below.trans ?_ (Below.mono hb1 ?_)); rotate_left; focus (first | omega | (simp; done) | (simp; omega))) | ((with_reducible refine Below.trans ?_ (Below.mono hb2 ?_)); rotate_left; focus (first | omega | (simp; done) | (simp; omega))))))) (HX.out.below (by (repeat (first | with_reducible assumption | with_reducible exact Below.refl _ _ | with_reducible refine Below.drew ?_ | with_reducible refine belowDrewN ?_ _ | ((with_reducible refine Below.setCell ?_ ?_ _); rotate_left; focus (first | omega | (simp; done) | (simp; omega))) | ((with_reducible refine Below.alloc ?_ ?_ _); rotate_left; focus (first | omega | (simp; done) | (simp; omega))) | ((with_reducible refine Below.trans ?_ (Below.mono hb1 ?_)); rotate_left; focus (first | omega | (simp; done) | (simp; omega))) | ((with_reducible refine Below.trans ?_ (Below.mono hb2 ?_)); rotate_left; focus (first | omega | (simp; done) | (simp; omega)))))))).mono ?_
        rintro e w3 ⟨rfl, hb3⟩
        have q3' : BBox w.heap.size s (.slice xa x.length xc) k n w3 := BBox.below ⟨q0, q1, q2, q3, f0, f1, f2, f3⟩ hb3 p1
        clear q0 q1 q2 q3 f0 f1 f2 f3
        have hz3 := hb3.size
        cases hC : clashB ds s x with
        | true =>
          have hno : addOk ds s x k n = false := by simp [addOk, hC]
          have HK := Lib.hid hK; clear hK; have HA := Lib.hid hA; clear hA; have HNO := Lib.hid hno; clear hno; have HC := Lib.hid hC; clear hC
          go_wp2_with fail
          refine (copyBindings_calls ds a cap ms _ hB HI.out (HIN.out.below (by (repeat (first | with_reducible assumption | with_reducible exact Below.refl _ _ | with_reducible refine Below.drew ?_ | with_reducible refine belowDrewN ?_ _ | ((with_reducible refine Below.setCell ?_ ?_ _); rotate_left; focus (first | omega | (simp; done) | (simp; omega))) | ((with_reducible refine Below.alloc ?_ ?_ _); rotate_left; focus (first | omega | (simp; done) | (simp; omega))) | ((with_reducible refine Below.trans ?_ (Below.mono hb1 ?_)); rotate_left; focus (first | omega | (simp; done) | (simp; omega))) | ((with_reducible refine Below.trans ?_ (Below.mono hb2 ?_)); rotate_left; focus (first | omega | (simp; done) | (simp; omega))) | ((with_reducible refine Below.trans ?_ (Below.mono hb3 ?_)); rotate_left; focus (first | omega | (simp; done) | (simp; omega)))))))).mono ?_
          rintro e w4 ⟨a2, cap2, ms2, rfl, hi2, hm2, hb4⟩
          have HI2 := Lib.hid hi2; clear hi2; have HM2 := Lib.hid hm2; clear hm2
          go_wp2_with fail
          go_ret2
          exact ⟨a2, cap2, ms2, by rw [HNO.out]; rfl, by rw [addTo_no HNO.out]; exact HI2.out, by (exact M.Mine.mono (M.Mine.keep HM2.out (fun b hb1 hb2 => by (try simp at hb1); simp (disch := (first | omega | (simp; omega))) only [heapSet, heapNew, heapDrew, heapDrewN])) (by first | omega | (simp; done) | (simp; omega))), by (repeat (first | with_reducible assumption | with_reducible exact Below.refl _ _ | with_reducible refine Below.drew ?_ | with_reducible refine belowDrewN ?_ _ | ((with_reducible refine Below.setCell ?_ ?_ _); rotate_left; focus (first | omega | (simp; done) | (simp; omega))) | ((with_reducible refine Below.alloc ?_ ?_ _); rotate_left; focus (first | omega | (simp; done) | (simp; omega))) | ((with_reducible refine Below.trans ?_ (Below.mono hb1 ?_)); rotate_left; focus (first | omega | (simp; done) | (simp; omega))) | ((with_reducible refine Below.trans ?_ (Below.mono hb2 ?_)); rotate_left; focus (first | omega | (simp; done) | (simp; omega))) | ((with_reducible refine Below.trans ?_ (Below.mono hb3 ?_)); rotate_left; focus (first | omega | (simp; done) | (simp; omega))) | ((with_reducible refine Below.trans ?_ (Below.mono hb4 ?_)); rotate_left; focus (first | omega | (simp; done) | (simp; omega)))))⟩
        | false =>
          have hno : addOk ds s x k n = true := by simp [addOk, hC, hA, hK, h1000]
          have hbz : Below w.heap.size w w3 := by (repeat (first | with_reducible assumption | with_reducible exact Below.refl _ _ | with_reducible refine Below.drew ?_ | with_reducible refine belowDrewN ?_ _ | ((with_reducible refine Below.setCell ?_ ?_ _); rotate_left; focus (first | omega | (simp; done) | (simp; omega))) | ((with_reducible refine Below.alloc ?_ ?_ _); rotate_left; focus (first | omega | (simp; done) | (simp; omega))) | ((with_reducible refine Below.trans ?_ (Below.mono hb1 ?_)); rotate_left; focus (first | omega | (simp; done) | (simp; omega))) | ((with_reducible refine Below.trans ?_ (Below.mono hb2 ?_)); rotate_left; focus (first | omega | (simp; done) | (simp; omega))) | ((with_reducible refine Below.trans ?_ (Below.mono hb3 ?_)); rotate_left; focus (first | omega | (simp; done) | (simp; omega)))))
          have p3 : w.heap.size < w3.heap.size := by omega
          have HK := Lib.hid hK; clear hK; have HA := Lib.hid hA; clear hA; have HNO := Lib.hid hno; clear hno; have HC := Lib.hid hC; clear hC
          go_wp2_with fail
          have hs0 := q3'
          go_region_held3 (fun w' => w'.cell? ⟨w.heap.size, 0, none⟩ = some (.string s) ∧ w'.cell? ⟨w.heap.size, 1, none⟩ = some (.slice xa x.length xc) ∧ w'.cell? ⟨w.heap.size, 2, none⟩ = some (.int .i64 k) ∧ w'.cell? ⟨w.heap.size, 3, none⟩ = some (.int .i64 n))
            (first | (with_reducible exact ⟨hs9.c0, hs9.c1, hs9.c2, hs9.c3⟩) | (with_reducible exact ⟨cellNew hs9.c0, cellNew hs9.c1, cellNew hs9.c2, cellNew hs9.c3⟩) | (simp only [World.cell?_drew]; first | (with_reducible exact ⟨hs9.c0, hs9.c1, hs9.c2, hs9.c3⟩) | (with_reducible exact ⟨cellNew hs9.c0, cellNew hs9.c1, cellNew hs9.c2, cellNew hs9.c3⟩)) | (with_reducible exact ⟨hs8.c0, hs8.c1, hs8.c2, hs8.c3⟩) | (with_reducible exact ⟨cellNew hs8.c0, cellNew hs8.c1, cellNew hs8.c2, cellNew hs8.c3⟩) | (simp only [World.cell?_drew]; first | (with_reducible exact ⟨hs8.c0, hs8.c1, hs8.c2, hs8.c3⟩) | (with_reducible exact ⟨cellNew hs8.c0, cellNew hs8.c1, cellNew hs8.c2, cellNew hs8.c3⟩)) | (with_reducible exact ⟨hs6.c0, hs6.c1, hs6.c2, hs6.c3⟩) | (with_reducible exact ⟨cellNew hs6.c0, cellNew hs6.c1, cellNew hs6.c2, cellNew hs6.c3⟩) | (simp only [World.cell?_drew]; first | (with_reducible exact ⟨hs6.c0, hs6.c1, hs6.c2, hs6.c3⟩) | (with_reducible exact ⟨cellNew hs6.c0, cellNew hs6.c1, cellNew hs6.c2, cellNew hs6.c3⟩)) | (with_reducible exact ⟨hs5.c0, hs5.c1, hs5.c2, hs5.c3⟩) | (with_reducible exact ⟨cellNew hs5.c0, cellNew hs5.c1, cellNew hs5.c2, cellNew hs5.c3⟩) | (simp only [World.cell?_drew]; first | (with_reducible exact ⟨hs5.c0, hs5.c1, hs5.c2, hs5.c3⟩) | (with_reducible exact ⟨cellNew hs5.c0, cellNew hs5.c1, cellNew hs5.c2, cellNew hs5.c3⟩)) | (with_reducible exact ⟨hs0.c0, hs0.c1, hs0.c2, hs0.c3⟩) | (with_reducible exact ⟨cellNew hs0.c0, cellNew hs0.c1, cellNew hs0.c2, cellNew hs0.c3⟩) | (simp only [World.cell?_drew]; first | (with_reducible exact ⟨hs0.c0, hs0.c1, hs0.c2, hs0.c3⟩) | (with_reducible exact ⟨cellNew hs0.c0, cellNew hs0.c1, cellNew hs0.c2, cellNew hs0.c3⟩)))
            (first
              | (go_at_call 42; refine (copyBindings_calls ds a cap ms _ hB HI.out (HIN.out.below (by (repeat (first | with_reducible assumption | with_reducible exact Below.refl _ _ | with_reducible refine Below.drew ?_ | with_reducible refine belowDrewN ?_ _ | ((with_reducible refine Below.setCell ?_ ?_ _); rotate_left; focus (first | omega | (simp; done) | (simp; omega))) | ((with_reducible refine Below.alloc ?_ ?_ _); rotate_left; focus (first | omega | (simp; done) | (simp; omega))) | ((with_reducible refine Below.trans ?_ (Below.mono hbz ?_)); rotate_left; focus (first | omega | (simp; done) | (simp; omega))) | ((with_reducible refine Below.trans ?_ (Below.mono hb6 ?_)); rotate_left; focus (first | omega | (simp; done) | (simp; omega)))))))).mono ?_; rintro e w5 ⟨a5, cap5, ms5, rfl, hi5, hm5, hb5⟩; (first | (have hs8 : BBox w.heap.size s (.slice xa x.length xc) k n w5 := hs6.of (hb5.block _ (by have := hb6.size; simp at this ⊢; omega))) | (have hs5 : BBox w.heap.size s (.slice xa x.length xc) k n w5 := hs0.of (hb5.block _ (by simp; omega)))))
              | (go_at_call 43; refine (copyBinding_calls s x k n xa xc _ hxB (HX.out.below (by (repeat (first | with_reducible assumption | with_reducible exact Below.refl _ _ | with_reducible refine Below.drew ?_ | with_reducible refine belowDrewN ?_ _ | ((with_reducible refine Below.setCell ?_ ?_ _); rotate_left; focus (first | omega | (simp; done) | (simp; omega))) | ((with_reducible refine Below.alloc ?_ ?_ _); rotate_left; focus (first | omega | (simp; done) | (simp; omega))) | ((with_reducible refine Below.trans ?_ (Below.mono hbz ?_)); rotate_left; focus (first | omega | (simp; done) | (simp; omega))) | ((with_reducible refine Below.trans ?_ (Below.mono hb5 ?_)); rotate_left; focus (first | omega | (simp; done) | (simp; omega)))))))).mono ?_; rintro e w6 ⟨xa6, xc6, rfl, hm6, hb6⟩; (first | (have hs8 : BBox w.heap.size s (.slice xa x.length xc) k n w6 := hs5.of (hb6.block _ (by have := hb5.size; simp at this ⊢; omega))) | (have hs6 : BBox w.heap.size s (.slice xa x.length xc) k n w6 := hs0.of (hb6.block _ (by simp; omega)))))
              | (refine step_one rfl _ _ 23 rfl 33 _ 4 56 Try.underlying23 infoBnd rfl (by decide) w3.heap.size a5 cap5 ms5 rfl (by first | exact (hm5.below hb6).mono (by simp) | exact hm5.mono (by have := hb6.size; simp at this; omega)) (by have := hb5.size; have := hb6.size; simp at *; omega) _ (bndM s xa6 xc6 x k n) (bndM_cells _ _ _ _ _ _) rfl (by first | exact (bndM_mine ((M.Mine.below hm6 hb5)) s k n).mono (by simp) | exact (bndM_mine hm6 s k n).mono (by have := hb5.size; simp at this; omega)) (by intro b hb hn; have h1 := hm5.lt b hn; rw [bndM_blocks] at hb; have h2 := Mine.addr_lo hm6 b hb; simp only [World.size_drew] at h1 h2; omega) rfl (by have := hi5.length; unfold maxLen; omega) (by have := hi5.length; omega) ?_; intro a9 cap9 w9 hm9 hb9 hz9 hfr9; have hs9 : BBox w.heap.size s (.slice xa x.length xc) k n w9 := hs8.of (hb9.block _ p3)))
          all_goals
            simp only [Bnd.s_mk, Bnd.x_mk, Bnd.k_mk, Bnd.n_mk] at *
            have hml : (ms5 ++ [bndM s xa6 xc6 x k n]).length = ms5.length + 1 := by simp
            have hfin : Bnd.IsL (ds ++ [.mk s x k n]) (ms5 ++ [bndM s xa6 xc6 x k n]) := hi5.snoc ⟨_, _, rfl⟩
            have hz5 := hb5.size
            have hz6 := hb6.size
            (try simp only [World.size_alloc, World.size_drew] at hz5 hz6)
            have hbf : Below w.heap.size w w9 := by (repeat (first | with_reducible assumption | with_reducible exact Below.refl _ _ | with_reducible refine Below.drew ?_ | with_reducible refine belowDrewN ?_ _ | ((with_reducible refine Below.setCell ?_ ?_ _); rotate_left; focus (first | omega | (simp; done) | (simp; omega))) | ((with_reducible refine Below.alloc ?_ ?_ _); rotate_left; focus (first | omega | (simp; done) | (simp; omega))) | ((with_reducible refine Below.trans ?_ (Below.mono hbz ?_)); rotate_left; focus (first | omega | (simp; done) | (simp; omega))) | ((with_reducible refine Below.trans ?_ (Below.mono hb5 ?_)); rotate_left; focus (first | omega | (simp; done) | (simp; omega))) | ((with_reducible refine Below.trans ?_ (Below.mono hb6 ?_)); rotate_left; focus (first | omega | (simp; done) | (simp; omega))) | ((with_reducible refine Below.trans ?_ (Below.mono hb9 ?_)); rotate_left; focus (first | omega | (simp; done) | (simp; omega)))))
            have HFIN := Lib.hid hfin; clear hfin; have HM9 := Lib.hid hm9; clear hm9; have HI5 := Lib.hid hi5; clear hi5; have HM5 := Lib.hid hm5; clear hm5; have HM6 := Lib.hid hm6; clear hm6
            go_wp2_with fail
            go_ret2
            exact ⟨a9, cap9, ms5 ++ [bndM s xa6 xc6 x k n], by rw [HNO.out, hml]; rfl, by rw [addTo_yes HNO.out]; exact HFIN.out, by exact HM9.out.mono (by omega), hbf⟩
      · have hm1000 : (1000 : Int) ≤ (ms.length : Int) := by rw [HL.out]; omega
        have hno : addOk ds s x k n = false := by simp [addOk, h1000]
        have HK := Lib.hid hK; clear hK; have HA := Lib.hid hA; clear hA; have HNO := Lib.hid hno; clear hno
        go_wp2_with fail
        refine (copyBindings_calls ds a cap ms _ hB HI.out (HIN.out.below (by (repeat (first | with_reducible assumption | with_reducible exact Below.refl _ _ | with_reducible refine Below.drew ?_ | with_reducible refine belowDrewN ?_ _ | ((with_reducible refine Below.setCell ?_ ?_ _); rotate_left; focus (first | omega | (simp; done) | (simp; omega))) | ((with_reducible refine Below.alloc ?_ ?_ _); rotate_left; focus (first | omega | (simp; done) | (simp; omega))) | ((with_reducible refine Below.trans ?_ (Below.mono hb1 ?_)); rotate_left; focus (first | omega | (simp; done) | (simp; omega))) | ((with_reducible refine Below.trans ?_ (Below.mono hb2 ?_)); rotate_left; focus (first | omega | (simp; done) | (simp; omega)))))))).mono ?_
        rintro e w3 ⟨a2, cap2, ms2, rfl, hi2, hm2, hb3⟩
        have HI2 := Lib.hid hi2; clear hi2; have HM2 := Lib.hid hm2; clear hm2
        go_wp2_with fail
        go_ret2
        exact ⟨a2, cap2, ms2, by rw [HNO.out]; rfl, by rw [addTo_no HNO.out]; exact HI2.out, by (exact M.Mine.mono (M.Mine.keep HM2.out (fun b hb1 hb2 => by (try simp at hb1); simp (disch := (first | omega | (simp; omega))) only [heapSet, heapNew, heapDrew, heapDrewN])) (by first | omega | (simp; done) | (simp; omega))), by (repeat (first | with_reducible assumption | with_reducible exact Below.refl _ _ | with_reducible refine Below.drew ?_ | with_reducible refine belowDrewN ?_ _ | ((with_reducible refine Below.setCell ?_ ?_ _); rotate_left; focus (first | omega | (simp; done) | (simp; omega))) | ((with_reducible refine Below.alloc ?_ ?_ _); rotate_left; focus (first | omega | (simp; done) | (simp; omega))) | ((with_reducible refine Below.trans ?_ (Below.mono hb1 ?_)); rotate_left; focus (first | omega | (simp; done) | (simp; omega))) | ((with_reducible refine Below.trans ?_ (Below.mono hb2 ?_)); rotate_left; focus (first | omega | (simp; done) | (simp; omega))) | ((with_reducible refine Below.trans ?_ (Below.mono hb3 ?_)); rotate_left; focus (first | omega | (simp; done) | (simp; omega)))))⟩
end Go.Proofs.Ytghbnehocggnnaa

/-
  Walks: the reference's AddBinding. No condition.
-/
set_option linter.unusedVariables false
set_option linter.unusedSimpArgs false
set_option maxRecDepth 100000
namespace Go.Proofs.Ytghbnehocggnnaa
open Go.RowKit

theorem Bnd.IsL.append : ∀ {xs ys : List Bnd} {ms ns : List M}, Bnd.IsL xs ms → Bnd.IsL ys ns → Bnd.IsL (xs ++ ys) (ms ++ ns)
  | [], _, ms, _, h, h2 => by simp [Bnd.IsL] at h; subst h; simpa using h2
  | x :: xs, ys, ms, ns, h, h2 => by
    obtain ⟨m, r, rfl, h1, h3⟩ := h
    exact ⟨m, r ++ ns, rfl, h1, Bnd.IsL.append h3 h2⟩
theorem MineL.of {w : World} {lo cap sz : Nat} {a : Option Addr} {e : TypeId} {ys : List M} (h : (M.sl a cap sz e ys).Mine w lo) : M.MineL w lo ys :=
  ⟨h.own.2, by have := h.dup; simp only [M.blocks] at this; exact (List.nodup_append.1 this).2.1⟩
/-- a row of one binding that lies in a new block -/
theorem one_in {w : World} {s : ByteArray} {x : List Int} {k n : Int} {xa : Option Addr} {xc : Nat} (hx : (M.sl xa xc 1 3 (intM x)).In w) :
    (M.sl (some ⟨w.heap.size, 0, none⟩) 1 4 33 [bndM s xa xc x k n]).In (w.alloc (.cells #[.string s, .slice xa x.length xc, .int .i64 k, .int .i64 n] 33)) := by
  have hb : Below w.heap.size w (w.alloc (.cells #[.string s, .slice xa x.length xc, .int .i64 k, .int .i64 n] 33)) := (Below.refl _ _).alloc (Nat.le_refl _) _
  refine ⟨⟨⟨by simp [M.cellsL, bndM_cells], by decide, by simp, by simp [maxLen], by simp, fun ad had j u hu => ?_⟩, by simp [bndM_cells]⟩, ⟨⟨trivial, hx.below hb, trivial, trivial, trivial⟩, trivial⟩⟩
  obtain rfl := Option.some.inj had
  rw [addr_add, Nat.zero_add, World.cell?_alloc_new]
  simp only [M.cellsL, List.append_nil, bndM_cells] at hu
  simpa using hu
theorem Bnd.IsL.one (s : ByteArray) (x : List Int) (k n : Int) (xa : Option Addr) (xc : Nat) : Bnd.IsL [.mk s x k n] [bndM s xa xc x k n] := ⟨_, _, rfl, ⟨_, _, rfl⟩, rfl⟩
theorem l3Copy_one (s : ByteArray) (x : List Int) (k n : Int) (xa : Option Addr) (xc : Nat) (a : Option Addr) (w : World) (hB : s.size + x.length ≤ 3000000) (hin : (M.sl a 1 4 33 [bndM s xa xc x k n]).In w) :
    Calls Try.prog 74 #[.slice a 1 1] w (RetBnds 33 [.mk s x k n] w) :=
  l3Copy_calls [.mk s x k n] a 1 [bndM s xa xc x k n] w (by simp [Bnd.wtX, Bnd.wt]; omega) (Bnd.IsL.one _ _ _ _ _ _) hin
end Go.Proofs.Ytghbnehocggnnaa

/-
  Walks: Candidates. No condition.
-/
set_option linter.unusedVariables false
set_option linter.unusedSimpArgs false
set_option maxRecDepth 100000
namespace Go.Proofs.Ytghbnehocggnnaa
open Go.RowKit

theorem candG_no (s : ByteArray) (x : List Int) (ds : List Bnd) : candG false s x ds = [] := rfl
theorem candG_yes (s : ByteArray) (x : List Int) (ds : List Bnd) : candG true s x ds = cands s x ds := rfl
theorem Bnd.wtX_filter (p : Bnd → Bool) (ds : List Bnd) : Bnd.wtX (ds.filter p) ≤ Bnd.wtX ds := by
  induction ds with
  | nil => simp
  | cons d r ih => rw [List.filter_cons]; split <;> simp only [Bnd.wtX] <;> omega
theorem Bnd.placesL_filter (p : Bnd → Bool) (ds : List Bnd) : Bnd.placesL (ds.filter p) ≤ Bnd.placesL ds := by
  induction ds with
  | nil => simp
  | cons d r ih => rw [List.filter_cons]; split <;> simp only [Bnd.placesL] <;> omega
theorem candG_places (ok : Bool) (s : ByteArray) (x : List Int) (ds : List Bnd) : Bnd.placesL (candG ok s x ds) ≤ Bnd.placesL ds := by
  cases ok with
  | false => simp [candG_no, Bnd.placesL]
  | true => exact Bnd.placesL_filter _ _
set_option maxHeartbeats 4000000 in
theorem iCandidates_calls (ds : List Bnd) (a : Option Addr) (cap : Nat) (ms : List M) (k n : Int) (s : ByteArray) (x : List Int) (es : List Syn) (xa : Option Addr) (xc : Nat) (ia : Option Addr) (ic : Nat) (ims : List M) (w : World) (hwf : Bnd.wfL ds) (hs9 : ∀ d ∈ ds, d.s.size ≤ 1048576)
    (hB : ds.length + Bnd.wtX ds ≤ 4000000) (hi : Bnd.IsL ds ms) (hin : (M.sl a cap 4 33 ms).In w) (hwf2 : (Syn.mk k n s x es).wf) (hcB : Syn.countL es ≤ 1000000000) (hi2 : Syn.IsL 27 es ims) (hown : (SynOwn 27 xa xc x ia ic ims).In w) :
    Calls Try.prog 33 #[.slice a ms.length cap, .agg #[.int .i64 k, .int .i64 n, .string s, .slice xa x.length xc, .slice ia ims.length ic]] w (RetBnds 33 (candG (areB ds && isIdB k n s x es) s x ds) w) := by
  have hl := hi.length
  have hcap := hin.len
  have hx := SynIn_x hown
  have hxl := Ints.len hx
  have HI := Lib.hid hi; clear hi; have HIN := Lib.hid hin; clear hin; have HX := Lib.hid hx; clear hx; have HWF := Lib.hid hwf; clear hwf; have HS9 := Lib.hid hs9; clear hs9; have HL := Lib.hid hl; clear hl; have HI2 := Lib.hid hi2; clear hi2; have HOWN := Lib.hid hown; clear hown; have HWF2 := Lib.hid hwf2; clear hwf2
  go_enter Try.func33, Try.ntmps33
  go_wp2_with fail
  refine (iAreBindings_calls ds a cap ms _ HWF.out HI.out (HIN.out.below (by (repeat (first | with_reducible assumption | with_reducible exact Below.refl _ _ | with_reducible refine Below.drew ?_ | with_reducible refine belowDrewN ?_ _ | ((with_reducible refine Below.setCell ?_ ?_ _); rotate_left; focus (first | omega | (simp; done) | (simp; omega))) | ((with_reducible refine Below.alloc ?_ ?_ _); rotate_left; focus (first | omega | (simp; done) | (simp; omega))))))) HS9.out).mono ?_
  rintro e w1 ⟨rfl, hb1⟩
  have hq1 : SBox w.heap.size k n s (.slice xa x.length xc) (.slice ia ims.length ic) w1 := (SBox.new k n s (.slice xa x.length xc) (.slice ia ims.length ic) w).below hb1 (by simp)
  have hz1 := hb1.size
  simp only [World.size_alloc] at hz1
  cases hA : areB ds with
  | false =>
    have hno : candG (areB ds && isIdB k n s x es) s x ds = [] := by rw [hA]; rfl
    have HA := Lib.hid hA; clear hA; have HNO := Lib.hid hno; clear hno
    clear hq1
    go_wp2_with fail
    go_ret
    exact ⟨none, 0, [], rfl, by rw [HNO.out]; rfl, M.Mine.nil _ _ _ _ (by decide), by (repeat (first | with_reducible assumption | with_reducible exact Below.refl _ _ | with_reducible refine Below.drew ?_ | with_reducible refine belowDrewN ?_ _ | ((with_reducible refine Below.setCell ?_ ?_ _); rotate_left; focus (first | omega | (simp; done) | (simp; omega))) | ((with_reducible refine Below.alloc ?_ ?_ _); rotate_left; focus (first | omega | (simp; done) | (simp; omega))) | ((with_reducible refine Below.trans ?_ (Below.mono hb1 ?_)); rotate_left; focus (first | omega | (simp; done) | (simp; omega)))))⟩
  | true =>
    have p0 := hq1.lt
    obtain ⟨q0, q1, q2, q3, q4, f0, f1, f2, f3, f4⟩ := hq1
    go_wp2_with fail
    refine (iIsIdentifier_calls k n s x es xa xc ia ic ims _ HWF2.out hcB HI2.out (HOWN.out.below (by (repeat (first | with_reducible assumption | with_reducible exact Below.refl _ _ | with_reducible refine Below.drew ?_ | with_reducible refine belowDrewN ?_ _ | ((with_reducible refine Below.setCell ?_ ?_ _); rotate_left; focus (first | omega | (simp; done) | (simp; omega))) | ((with_reducible refine Below.alloc ?_ ?_ _); rotate_left; focus (first | omega | (simp; done) | (simp; omega))) | ((with_reducible refine Below.trans ?_ (Below.mono hb1 ?_)); rotate_left; focus (first | omega | (simp; done) | (simp; omega)))))))).mono ?_
    rintro e w2 ⟨rfl, hb2⟩
    have hq2 : SBox w.heap.size k n s (.slice xa x.length xc) (.slice ia ims.length ic) w2 := SBox.below ⟨q0, q1, q2, q3, q4, f0, f1, f2, f3, f4⟩ hb2 p0
    clear q0 q1 q2 q3 q4 f0 f1 f2 f3 f4
    have hz2 := hb2.size
    cases hid : isIdB k n s x es with
    | false =>
      have hno : candG (areB ds && isIdB k n s x es) s x ds = [] := by rw [hA, hid]; rfl
      have HA := Lib.hid hA; clear hA; have HID := Lib.hid hid; clear hid; have HNO := Lib.hid hno; clear hno
      clear hq2
      go_wp2_with fail
      go_ret
      exact ⟨none, 0, [], rfl, by rw [HNO.out]; rfl, M.Mine.nil _ _ _ _ (by decide), by (repeat (first | with_reducible assumption | with_reducible exact Below.refl _ _ | with_reducible refine Below.drew ?_ | with_reducible refine belowDrewN ?_ _ | ((with_reducible refine Below.setCell ?_ ?_ _); rotate_left; focus (first | omega | (simp; done) | (simp; omega))) | ((with_reducible refine Below.alloc ?_ ?_ _); rotate_left; focus (first | omega | (simp; done) | (simp; omega))) | ((with_reducible refine Below.trans ?_ (Below.mono hb1 ?_)); rotate_left; focus (first | omega | (simp; done) | (simp; omega))) | ((with_reducible refine Below.trans ?_ (Below.mono hb2 ?_)); rotate_left; focus (first | omega | (simp; done) | (simp; omega)))))⟩
    | true =>
      have hno : candG (areB ds && isIdB k n s x es) s x ds = cands s x ds := by rw [hA, hid]; rfl
      have hbz : Below w.heap.size w w2 := by (repeat (first | with_reducible assumption | with_reducible exact Below.refl _ _ | with_reducible refine Below.drew ?_ | with_reducible refine belowDrewN ?_ _ | ((with_reducible refine Below.setCell ?_ ?_ _); rotate_left; focus (first | omega | (simp; done) | (simp; omega))) | ((with_reducible refine Below.alloc ?_ ?_ _); rotate_left; focus (first | omega | (simp; done) | (simp; omega))) | ((with_reducible refine Below.trans ?_ (Below.mono hb1 ?_)); rotate_left; focus (first | omega | (simp; done) | (simp; omega))) | ((with_reducible refine Below.trans ?_ (Below.mono hb2 ?_)); rotate_left; focus (first | omega | (simp; done) | (simp; omega)))))
      have HA := Lib.hid hA; clear hA; have HID := Lib.hid hid; clear hid; have HNO := Lib.hid hno; clear hno; have HQ2 := Lib.hid hq2; clear hq2
      go_wp2_with fail
      go_loopw [5, 18] (fun t i wr => ∃ (j : Nat) (a' : Option Addr) (cap' : Nat) (ms' : List M), j ≤ ms.length ∧ i = .int .i64 j ∧ t = .slice a' ms'.length cap' ∧ Bnd.IsL (cands s x (ds.take j)) ms' ∧ (M.sl a' cap' 4 33 ms').Mine wr (w.heap.size + 1) ∧
          SBox w.heap.size k n s (.slice xa x.length xc) (.slice ia ims.length ic) wr ∧ Below w.heap.size w wr ∧ w.heap.size + 1 ≤ wr.heap.size) (fun _ i _ => ms.length - (intOf i).toNat)
      case atStart => exact ⟨0, none, 0, [], Nat.zero_le _, rfl, rfl, by simp [cands, Bnd.IsL], M.Mine.nil _ _ _ _ (by decide), HQ2.out, hbz, by omega⟩
      case round =>
        obtain ⟨j, a', cap', ms', hj, rfl, rfl, hi', hm', hq, hb, hsz⟩ := hrel
        by_cases hlt : j < ms.length
        · obtain ⟨b, off, s1, x1, k1, n1, xa1, xc1, rfl, hd, hx1, c0, c1, c2, c3⟩ := Bnd.elem (HIN.out.below hb) HI.out j hlt
          have hle : x1.length ≤ 4000000 := Bnd.x_le hd (by omega)
          have hlen' : ms'.length ≤ j := by
            have h1 := hi'.length; have h2 := cands_length s x (ds.take j); have h3 : (ds.take j).length ≤ j := List.length_take_le _ _; omega
          have p1 := hq.lt
          have hq0 := hq
          obtain ⟨q0, q1, q2, q3, q4, f0, f1, f2, f3, f4⟩ := hq
          by_cases hs : s1 = s
          · have hss : (s1.toList == s.toList) = true := by rw [hs]; simp
            cases hsub : subB x1 x with
            | true =>
              have hcy := candB_yes (b := .mk s1 x1 k1 n1) hs hsub
              have hst := cands_yes hd hcy
              have HD := Lib.hid hd; clear hd; have HX1 := Lib.hid hx1; clear hx1; have HI' := Lib.hid hi'; clear hi'; have HM' := Lib.hid hm'; clear hm'; have HS := Lib.hid hs; clear hs; have HCY := Lib.hid hcy; clear hcy; have HST := Lib.hid hst; clear hst; have HQ0 := Lib.hid hq0; clear hq0
              go_wp2_with fail
              refine (iWithin_eq xa1 xc1 x1 xa xc x _ (HX1.out.below (by (repeat (first | with_reducible assumption | with_reducible exact Below.refl _ _ | with_reducible refine Below.drew ?_ | with_reducible refine belowDrewN ?_ _ | ((with_reducible refine Below.setCell ?_ ?_ _); rotate_left; focus (first | omega | (simp; done) | (simp; omega))) | ((with_reducible refine Below.alloc ?_ ?_ _); rotate_left; focus (first | omega | (simp; done) | (simp; omega))))))) (HX.out.below (by (repeat (first | with_reducible assumption | with_reducible exact Below.refl _ _ | with_reducible refine Below.drew ?_ | with_reducible refine belowDrewN ?_ _ | ((with_reducible refine Below.setCell ?_ ?_ _); rotate_left; focus (first | omega | (simp; done) | (simp; omega))) | ((with_reducible refine Below.alloc ?_ ?_ _); rotate_left; focus (first | omega | (simp; done) | (simp; omega)))))))).mono ?_
              rintro e w3 ⟨rfl, rfl⟩
              go_wp2_with fail
              refine (copyBinding_calls s1 x1 k1 n1 xa1 xc1 _ hle (HX1.out.below (by (repeat (first | with_reducible assumption | with_reducible exact Below.refl _ _ | with_reducible refine Below.drew ?_ | with_reducible refine belowDrewN ?_ _ | ((with_reducible refine Below.setCell ?_ ?_ _); rotate_left; focus (first | omega | (simp; done) | (simp; omega))) | ((with_reducible refine Below.alloc ?_ ?_ _); rotate_left; focus (first | omega | (simp; done) | (simp; omega)))))))).mono ?_
              rintro e w3 ⟨xa2, xc2, rfl, hm2, hb2'⟩
              have hz3 := hb2'.size
              simp only [World.size_alloc] at hz3
              simp only [Bnd.s_mk, Bnd.x_mk, Bnd.k_mk, Bnd.n_mk] at hm2 ⊢
              have hbA : Below wr.heap.size wr w3 := by (repeat (first | with_reducible assumption | with_reducible exact Below.refl _ _ | with_reducible refine Below.drew ?_ | with_reducible refine belowDrewN ?_ _ | ((with_reducible refine Below.setCell ?_ ?_ _); rotate_left; focus (first | omega | (simp; done) | (simp; omega))) | ((with_reducible refine Below.alloc ?_ ?_ _); rotate_left; focus (first | omega | (simp; done) | (simp; omega))) | ((with_reducible refine Below.trans ?_ (Below.mono hb2' ?_)); rotate_left; focus (first | omega | (simp; done) | (simp; omega)))))
              go_wp2_with (at_builtin; refine wpList_push (wr := wr) rfl _ _ 23 rfl 33 _ 4 56 Try.underlying23 infoBnd rfl (by decide) (w.heap.size + 1) a' cap' ms' rfl HM'.out hsz ?below _ (bndM s1 xa2 xc2 x1 k1 n1) ?cells rfl _ (bndM_mine hm2 s1 k1 n1) ?lo rfl ?max ?bytes ?_)
              case below => exact hbA
              case cells => exact bndM_cells _ _ _ _ _ _
              case lo => simp
              case max => unfold maxLen; omega
              case bytes => have := HL.out; omega
              intro a3 cap3 w4 hm3 hb3 hz4 hfr3
              have hfin : Bnd.IsL (cands s x (ds.take (j + 1))) (ms' ++ [bndM s1 xa2 xc2 x1 k1 n1]) := by
                rw [HST.out]; exact HI'.out.snoc ⟨_, _, rfl⟩
              have hq4 := (HQ0.out.below hbA p1).below hb3 (by omega)
              have hbf : Below w.heap.size w w4 := by (repeat (first | with_reducible assumption | with_reducible exact Below.refl _ _ | with_reducible refine Below.drew ?_ | with_reducible refine belowDrewN ?_ _ | ((with_reducible refine Below.setCell ?_ ?_ _); rotate_left; focus (first | omega | (simp; done) | (simp; omega))) | ((with_reducible refine Below.alloc ?_ ?_ _); rotate_left; focus (first | omega | (simp; done) | (simp; omega))) | ((with_reducible refine Below.trans ?_ (Below.mono hb ?_)); rotate_left; focus (first | omega | (simp; done) | (simp; omega))) | ((with_reducible refine Below.trans ?_ (Below.mono hbA ?_)); rotate_left; focus (first | omega | (simp; done) | (simp; omega))) | ((with_reducible refine Below.trans ?_ (Below.mono hb3 ?_)); rotate_left; focus (first | omega | (simp; done) | (simp; omega)))))
              have HM3 := Lib.hid hm3; clear hm3; have HFIN := Lib.hid hfin; clear hfin; have HFR3 := Lib.hid hfr3; clear hfr3; have HM2 := Lib.hid hm2; clear hm2; have HQ4 := Lib.hid hq4; clear hq4
              go_wp2_with fail
              go_roundw
              case rel => exact ⟨j + 1, a3, cap3, _, by omega, by go_num, by simp, HFIN.out, HM3.out, HQ4.out, hbf, by omega⟩
              case measure => simp [intOf]; omega
            | false =>
              have hcn := candB_no2 (s := s) (x := x) (b := .mk s1 x1 k1 n1) hsub
              have hst := cands_no hd hcn
              have hq1' := (hq0.below (B := wr.heap.size) (w' := wr.alloc (.cells #[.string s1, .slice xa1 x1.length xc1, .int .i64 k1, .int .i64 n1] 33)) (by (repeat (first | with_reducible assumption | with_reducible exact Below.refl _ _ | with_reducible refine Below.drew ?_ | with_reducible refine belowDrewN ?_ _ | ((with_reducible refine Below.setCell ?_ ?_ _); rotate_left; focus (first | omega | (simp; done) | (simp; omega))) | ((with_reducible refine Below.alloc ?_ ?_ _); rotate_left; focus (first | omega | (simp; done) | (simp; omega)))))) p1)
              have HD := Lib.hid hd; clear hd; have HX1 := Lib.hid hx1; clear hx1; have HI' := Lib.hid hi'; clear hi'; have HM' := Lib.hid hm'; clear hm'; have HS := Lib.hid hs; clear hs; have HCN := Lib.hid hcn; clear hcn; have HST := Lib.hid hst; clear hst; have HQ0 := Lib.hid hq0; clear hq0; have HQ1' := Lib.hid hq1'; clear hq1'
              go_wp2_with fail
              refine (iWithin_eq xa1 xc1 x1 xa xc x _ (HX1.out.below (by (repeat (first | with_reducible assumption | with_reducible exact Below.refl _ _ | with_reducible refine Below.drew ?_ | with_reducible refine belowDrewN ?_ _ | ((with_reducible refine Below.setCell ?_ ?_ _); rotate_left; focus (first | omega | (simp; done) | (simp; omega))) | ((with_reducible refine Below.alloc ?_ ?_ _); rotate_left; focus (first | omega | (simp; done) | (simp; omega))))))) (HX.out.below (by (repeat (first | with_reducible assumption | with_reducible exact Below.refl _ _ | with_reducible refine Below.drew ?_ | with_reducible refine belowDrewN ?_ _ | ((with_reducible refine Below.setCell ?_ ?_ _); rotate_left; focus (first | omega | (simp; done) | (simp; omega))) | ((with_reducible refine Below.alloc ?_ ?_ _); rotate_left; focus (first | omega | (simp; done) | (simp; omega)))))))).mono ?_
              rintro e w3 ⟨rfl, rfl⟩
              go_wp2_with fail
              go_roundw
              case rel => exact ⟨j + 1, a', cap', ms', by omega, by go_num, rfl, by rw [HST.out]; exact HI'.out, HM'.out.below (by (repeat (first | with_reducible assumption | with_reducible exact Below.refl _ _ | with_reducible refine Below.drew ?_ | with_reducible refine belowDrewN ?_ _ | ((with_reducible refine Below.setCell ?_ ?_ _); rotate_left; focus (first | omega | (simp; done) | (simp; omega))) | ((with_reducible refine Below.alloc ?_ ?_ _); rotate_left; focus (first | omega | (simp; done) | (simp; omega)))))), HQ1'.out, by (repeat (first | with_reducible assumption | with_reducible exact Below.refl _ _ | with_reducible refine Below.drew ?_ | with_reducible refine belowDrewN ?_ _ | ((with_reducible refine Below.setCell ?_ ?_ _); rotate_left; focus (first | omega | (simp; done) | (simp; omega))) | ((with_reducible refine Below.alloc ?_ ?_ _); rotate_left; focus (first | omega | (simp; done) | (simp; omega))) | ((with_reducible refine Below.trans ?_ (Below.mono hb ?_)); rotate_left; focus (first | omega | (simp; done) | (simp; omega))))), by simp; omega⟩
              case measure => simp [intOf]; omega
          · have hss := ba_ne hs
            have hcn := candB_no1 (s := s) (x := x) (b := .mk s1 x1 k1 n1) hs
            have hst := cands_no hd hcn
            have hq1' := (hq0.below (B := wr.heap.size) (w' := wr.alloc (.cells #[.string s1, .slice xa1 x1.length xc1, .int .i64 k1, .int .i64 n1] 33)) (by (repeat (first | with_reducible assumption | with_reducible exact Below.refl _ _ | with_reducible refine Below.drew ?_ | with_reducible refine belowDrewN ?_ _ | ((with_reducible refine Below.setCell ?_ ?_ _); rotate_left; focus (first | omega | (simp; done) | (simp; omega))) | ((with_reducible refine Below.alloc ?_ ?_ _); rotate_left; focus (first | omega | (simp; done) | (simp; omega)))))) p1)
            have HD := Lib.hid hd; clear hd; have HX1 := Lib.hid hx1; clear hx1; have HI' := Lib.hid hi'; clear hi'; have HM' := Lib.hid hm'; clear hm'; have HS := Lib.hid hs; clear hs; have HCN := Lib.hid hcn; clear hcn; have HST := Lib.hid hst; clear hst; have HQ0 := Lib.hid hq0; clear hq0; have HQ1' := Lib.hid hq1'; clear hq1'
            go_wp2_with fail
            go_roundw
            case rel => exact ⟨j + 1, a', cap', ms', by omega, by go_num, rfl, by rw [HST.out]; exact HI'.out, HM'.out.below (by (repeat (first | with_reducible assumption | with_reducible exact Below.refl _ _ | with_reducible refine Below.drew ?_ | with_reducible refine belowDrewN ?_ _ | ((with_reducible refine Below.setCell ?_ ?_ _); rotate_left; focus (first | omega | (simp; done) | (simp; omega))) | ((with_reducible refine Below.alloc ?_ ?_ _); rotate_left; focus (first | omega | (simp; done) | (simp; omega)))))), HQ1'.out, by (repeat (first | with_reducible assumption | with_reducible exact Below.refl _ _ | with_reducible refine Below.drew ?_ | with_reducible refine belowDrewN ?_ _ | ((with_reducible refine Below.setCell ?_ ?_ _); rotate_left; focus (first | omega | (simp; done) | (simp; omega))) | ((with_reducible refine Below.alloc ?_ ?_ _); rotate_left; focus (first | omega | (simp; done) | (simp; omega))) | ((with_reducible refine Below.trans ?_ (Below.mono hb ?_)); rotate_left; focus (first | omega | (simp; done) | (simp; omega))))), by simp; omega⟩
            case measure => simp [intOf]; omega
        · have hj2 : j = ms.length := by omega
          subst hj2
          rw [HL.out, List.take_length] at hi'
          have HI' := Lib.hid hi'; clear hi'; have HM' := Lib.hid hm'; clear hm'; have HQ := Lib.hid hq; clear hq
          go_wp2_with fail
          go_ret
          exact ⟨a', cap', ms', rfl, by rw [HNO.out]; exact HI'.out, HM'.out.mono (by omega), hb⟩
/-- Bindings handed back whose scopes lie where they lay. -/
def RetBndsIn (e : TypeId) (ds : List Bnd) (w : World) (en : Ending) (w' : World) : Prop :=
  ∃ a cap ms, en = .returned (.slice a ms.length cap) ∧ Bnd.IsL ds ms ∧ (M.sl a cap 4 e ms).In w' ∧ Below w.heap.size w w'
theorem ownsRow_in {w : World} {lo cap : Nat} {a : Option Addr} {e : TypeId} {ms : List M} (h : w.ownsRow lo e 4 (.slice a ms.length cap) ms.length (M.cellsL ms)) (hc : ∀ m ∈ ms, m.cells.length = 4) (hi : M.InL w ms) : (M.sl a cap 4 e ms).In w :=
  ⟨⟨ownsRow_hdr h (by decide), hc⟩, hi⟩
theorem bnds_cells : ∀ {ds : List Bnd} {ms : List M}, Bnd.IsL ds ms → ∀ m ∈ ms, m.cells.length = 4
  | [], ms, h => by simp [Bnd.IsL] at h; subst h; simp
  | d :: r, ms, h => by
    obtain ⟨m, q, rfl, h1, h2⟩ := h
    intro y hy
    rcases List.mem_cons.1 hy with rfl | hy
    · obtain ⟨s, x, k, n⟩ := d; obtain ⟨xa, xc, rfl⟩ := h1; simp [bndM_cells]
    · exact bnds_cells h2 y hy
theorem ownsRow_below {w w' : World} {lo sz n cap : Nat} {e : TypeId} {a : Option Addr} {cs : List Value} (h : w.ownsRow lo e sz (.slice a n cap) n cs) (hb : Below w.heap.size w w') : w'.ownsRow lo e sz (.slice a n cap) n cs :=
  ownsRow_frame h fun b hb' => hb.block b (h.lt b (addrBlocks_own.2 hb')).2
set_option maxHeartbeats 4000000 in
theorem l3Candidates_calls (ds : List Bnd) (a : Option Addr) (cap : Nat) (ms : List M) (k n : Int) (s : ByteArray) (x : List Int) (xa : Option Addr) (xc : Nat) (ia : Option Addr) (il ic : Nat) (w : World)
    (hB : ds.length + Bnd.wtX ds ≤ 4000000) (hi : Bnd.IsL ds ms) (hin : (M.sl a cap 4 33 ms).In w) (hx : (M.sl xa xc 1 3 (intM x)).In w) :
    Calls Try.prog 75 #[.slice a ms.length cap, .agg #[.int .i64 k, .int .i64 n, .string s, .slice xa x.length xc, .slice ia il ic]] w (RetBndsIn 33 (cands s x ds) w) := by
  have hl := hi.length
  have hcap := hin.len
  have hxl := Ints.len hx
  have HI := Lib.hid hi; clear hi; have HIN := Lib.hid hin; clear hin; have HX := Lib.hid hx; clear hx; have HL := Lib.hid hl; clear hl
  go_enter Try.func75, Try.ntmps75
  go_wp2_with fail
  go_loopw [5, 11] (fun t i wr => ∃ (j : Nat) (a' : Option Addr) (cap' : Nat) (ms' : List M), j ≤ ms.length ∧ i = .int .i64 j ∧ t = .slice a' ms'.length cap' ∧ Bnd.IsL (cands s x (ds.take j)) ms' ∧ wr.ownsRow (w.heap.size + 1) 33 4 (.slice a' ms'.length cap') ms'.length (M.cellsL ms') ∧ M.InL w ms' ∧
      SBox w.heap.size k n s (.slice xa x.length xc) (.slice ia il ic) wr ∧ Below w.heap.size w wr ∧ w.heap.size + 1 ≤ wr.heap.size) (fun _ i _ => ms.length - (intOf i).toNat)
  case atStart => exact ⟨0, _, 0, [], Nat.zero_le _, rfl, rfl, by simp [cands, Bnd.IsL], (by have h := (M.Mine.new (lo := w.heap.size + 1) (w := w.alloc (.cells #[.int .i64 k, .int .i64 n, .string s, .slice xa x.length xc, .slice ia il ic] 27)) (sz := 4) (e := 33) (xs := []) (cs := #[]) rfl (by simp) rfl (by decide) (by simp) (by simp [maxLen]) ⟨trivial, by simp [M.blocksL]⟩).own.1.1; simpa using h), trivial, (SBox.new _ _ _ _ _ _).of (heapNew _ _ _ (by simp)), by (repeat (first | with_reducible assumption | with_reducible exact Below.refl _ _ | with_reducible refine Below.drew ?_ | with_reducible refine belowDrewN ?_ _ | ((with_reducible refine Below.setCell ?_ ?_ _); rotate_left; focus (first | omega | (simp; done) | (simp; omega))) | ((with_reducible refine Below.alloc ?_ ?_ _); rotate_left; focus (first | omega | (simp; done) | (simp; omega))))), by simp⟩
  case round =>
    obtain ⟨j, a', cap', ms', hj, rfl, rfl, hi', hrow, hil, hq, hb, hsz⟩ := hrel
    by_cases hlt : j < ms.length
    · obtain ⟨b, off, s1, x1, k1, n1, xa1, xc1, rfl, hd, hx1, d0, d1, d2, d3⟩ := Bnd.elem HIN.out HI.out j hlt
      have hbl := World.block_lt_of_cell? w _ d0
      have c0 := (hb.cell (p := ⟨b, off + j * 4, none⟩) hbl).trans d0
      have c1 := (hb.cell (p := ⟨b, off + j * 4 + 1, none⟩) hbl).trans d1
      have c2 := (hb.cell (p := ⟨b, off + j * 4 + 2, none⟩) hbl).trans d2
      have c3 := (hb.cell (p := ⟨b, off + j * 4 + 3, none⟩) hbl).trans d3
      clear d0 d1 d2 d3
      have hlen' : ms'.length ≤ j := by
        have h1 := hi'.length; have h2 := cands_length s x (ds.take j); have h3 : (ds.take j).length ≤ j := List.length_take_le _ _; omega
      have p1 := hq.lt
      have hq0 := hq
      obtain ⟨q0, q1, q2, q3, q4, f0, f1, f2, f3, f4⟩ := hq
      have hbB : Below w.heap.size w (wr.alloc (.cells #[.string s1, .slice xa1 x1.length xc1, .int .i64 k1, .int .i64 n1] 33)) := by (repeat (first | with_reducible assumption | with_reducible exact Below.refl _ _ | with_reducible refine Below.drew ?_ | with_reducible refine belowDrewN ?_ _ | ((with_reducible refine Below.setCell ?_ ?_ _); rotate_left; focus (first | omega | (simp; done) | (simp; omega))) | ((with_reducible refine Below.alloc ?_ ?_ _); rotate_left; focus (first | omega | (simp; done) | (simp; omega))) | ((with_reducible refine Below.trans ?_ (Below.mono hb ?_)); rotate_left; focus (first | omega | (simp; done) | (simp; omega)))))
      have hq1' := (hq0.below (B := wr.heap.size) (w' := wr.alloc (.cells #[.string s1, .slice xa1 x1.length xc1, .int .i64 k1, .int .i64 n1] 33)) (by (repeat (first | with_reducible assumption | with_reducible exact Below.refl _ _ | with_reducible refine Below.drew ?_ | with_reducible refine belowDrewN ?_ _ | ((with_reducible refine Below.setCell ?_ ?_ _); rotate_left; focus (first | omega | (simp; done) | (simp; omega))) | ((with_reducible refine Below.alloc ?_ ?_ _); rotate_left; focus (first | omega | (simp; done) | (simp; omega)))))) p1)
      have hrow1 := ownsRow_below hrow (w' := wr.alloc (.cells #[.string s1, .slice xa1 x1.length xc1, .int .i64 k1, .int .i64 n1] 33)) (by (repeat (first | with_reducible assumption | with_reducible exact Below.refl _ _ | with_reducible refine Below.drew ?_ | with_reducible refine belowDrewN ?_ _ | ((with_reducible refine Below.setCell ?_ ?_ _); rotate_left; focus (first | omega | (simp; done) | (simp; omega))) | ((with_reducible refine Below.alloc ?_ ?_ _); rotate_left; focus (first | omega | (simp; done) | (simp; omega))))))
      by_cases hs : s1 = s
      · have hss : (s1.toList == s.toList) = true := by rw [hs]; simp
        cases hsub : subB x1 x with
        | true =>
          have hcy := candB_yes (b := .mk s1 x1 k1 n1) hs hsub
          have hst := cands_yes hd hcy
          have HD := Lib.hid hd; clear hd; have HX1 := Lib.hid hx1; clear hx1; have HI' := Lib.hid hi'; clear hi'; have HROW := Lib.hid hrow; clear hrow; have HROW1 := Lib.hid hrow1; clear hrow1; have HIL := Lib.hid hil; clear hil; have HS := Lib.hid hs; clear hs; have HCY := Lib.hid hcy; clear hcy; have HST := Lib.hid hst; clear hst; have HQ0 := Lib.hid hq0; clear hq0; have HQ1' := Lib.hid hq1'; clear hq1'
          go_wp2_with fail
          refine (sWithin_eq xa1 xc1 x1 xa xc x _ (HX1.out.below (by (repeat (first | with_reducible assumption | with_reducible exact Below.refl _ _ | with_reducible refine Below.drew ?_ | with_reducible refine belowDrewN ?_ _ | ((with_reducible refine Below.setCell ?_ ?_ _); rotate_left; focus (first | omega | (simp; done) | (simp; omega))) | ((with_reducible refine Below.alloc ?_ ?_ _); rotate_left; focus (first | omega | (simp; done) | (simp; omega))) | ((with_reducible refine Below.trans ?_ (Below.mono hb ?_)); rotate_left; focus (first | omega | (simp; done) | (simp; omega))))))) (HX.out.below (by (repeat (first | with_reducible assumption | with_reducible exact Below.refl _ _ | with_reducible refine Below.drew ?_ | with_reducible refine belowDrewN ?_ _ | ((with_reducible refine Below.setCell ?_ ?_ _); rotate_left; focus (first | omega | (simp; done) | (simp; omega))) | ((with_reducible refine Below.alloc ?_ ?_ _); rotate_left; focus (first | omega | (simp; done) | (simp; omega))) | ((with_reducible refine Below.trans ?_ (Below.mono hb ?_)); rotate_left; focus (first | omega | (simp; done) | (simp; omega)))))))).mono ?_
          rintro e w3 ⟨rfl, rfl⟩
          go_wp2_with (at_builtin; refine wpList_row _ rfl _ _ 23 rfl 33 _ 4 56 Try.underlying23 infoBnd rfl (by decide) (w.heap.size + 1) a' ms'.length cap' (M.cellsL ms') rfl ?own (some ⟨wr.heap.size + 1, 0, none⟩) 1 1 [.string s1, .slice xa1 x1.length xc1, .int .i64 k1, .int .i64 n1] rfl rfl ?no ?news ?one ?max ?bytes ?base ?_)
          case own => exact ownsRow_below HROW1.out (by (repeat (first | with_reducible assumption | with_reducible exact Below.refl _ _ | with_reducible refine Below.drew ?_ | with_reducible refine belowDrewN ?_ _ | ((with_reducible refine Below.setCell ?_ ?_ _); rotate_left; focus (first | omega | (simp; done) | (simp; omega))) | ((with_reducible refine Below.alloc ?_ ?_ _); rotate_left; focus (first | omega | (simp; done) | (simp; omega))))))
          case no => simp
          case news =>
            intro ad had i u hu
            obtain rfl := Option.some.inj had
            rw [addr_add, Nat.zero_add]
            rw [show wr.heap.size + 1 = (wr.alloc (.cells #[.string s1, .slice xa1 x1.length xc1, .int .i64 k1, .int .i64 n1] 33)).heap.size by simp, World.cell?_alloc_new]
            simpa using hu
          case one => intro u hu; simp at hu; rcases hu with rfl | rfl | rfl | rfl <;> rfl
          case max => unfold maxLen; omega
          case bytes => have := HL.out; omega
          case base => simp; omega
          intro a3 cap3 w4 hr4 hg4 ha4
          have hz4 := hg4.size
          simp only [World.size_alloc] at hz4
          have hfin : Bnd.IsL (cands s x (ds.take (j + 1))) (ms' ++ [bndM s1 xa1 xc1 x1 k1 n1]) := by
            rw [HST.out]; exact HI'.out.snoc ⟨_, _, rfl⟩
          have hbC : Below (w.heap.size + 1) (wr.alloc (.cells #[.string s1, .slice xa1 x1.length xc1, .int .i64 k1, .int .i64 n1] 33)) w4 :=
            ((Below.refl _ _).alloc (by simp; omega) _).trans (grownBy_below (lo := w.heap.size + 1) hg4 (by simp; omega) fun b hb => (HROW.out.lt b (addrBlocks_own.2 hb)).1)
          have hq4 := HQ1'.out.below hbC (by omega)
          have hbf : Below w.heap.size w w4 := hbB.trans (hbC.mono (by omega))
          have hrow4 : w4.ownsRow (w.heap.size + 1) 33 4 (.slice a3 (ms' ++ [bndM s1 xa1 xc1 x1 k1 n1]).length cap3) (ms' ++ [bndM s1 xa1 xc1 x1 k1 n1]).length (M.cellsL (ms' ++ [bndM s1 xa1 xc1 x1 k1 n1])) := by
            rw [M.cellsL_append]; simpa [M.cellsL, bndM_cells] using hr4
          have hil4 : M.InL w (ms' ++ [bndM s1 xa1 xc1 x1 k1 n1]) := (M.InL_append _ _).2 ⟨HIL.out, ⟨trivial, HX1.out, trivial, trivial, trivial⟩, trivial⟩
          have HFIN := Lib.hid hfin; clear hfin; have HR4 := Lib.hid hr4; clear hr4; have HG4 := Lib.hid hg4; clear hg4; have HA4 := Lib.hid ha4; clear ha4; have HROW4 := Lib.hid hrow4; clear hrow4; have HIL4 := Lib.hid hil4; clear hil4; have HQ4 := Lib.hid hq4; clear hq4
          go_wp2_with fail
          go_roundw
          case rel => exact ⟨j + 1, a3, cap3, ms' ++ [bndM s1 xa1 xc1 x1 k1 n1], by omega, by go_num, by simp, HFIN.out, HROW4.out, HIL4.out, HQ4.out, hbf, by omega⟩
          case measure => simp [intOf]; omega
        | false =>
          have hcn := candB_no2 (s := s) (x := x) (b := .mk s1 x1 k1 n1) hsub
          have hst := cands_no hd hcn
          have HD := Lib.hid hd; clear hd; have HX1 := Lib.hid hx1; clear hx1; have HI' := Lib.hid hi'; clear hi'; have HROW := Lib.hid hrow; clear hrow; have HROW1 := Lib.hid hrow1; clear hrow1; have HIL := Lib.hid hil; clear hil; have HS := Lib.hid hs; clear hs; have HCN := Lib.hid hcn; clear hcn; have HST := Lib.hid hst; clear hst; have HQ0 := Lib.hid hq0; clear hq0; have HQ1' := Lib.hid hq1'; clear hq1'
          go_wp2_with fail
          refine (sWithin_eq xa1 xc1 x1 xa xc x _ (HX1.out.below (by (repeat (first | with_reducible assumption | with_reducible exact Below.refl _ _ | with_reducible refine Below.drew ?_ | with_reducible refine belowDrewN ?_ _ | ((with_reducible refine Below.setCell ?_ ?_ _); rotate_left; focus (first | omega | (simp; done) | (simp; omega))) | ((with_reducible refine Below.alloc ?_ ?_ _); rotate_left; focus (first | omega | (simp; done) | (simp; omega))) | ((with_reducible refine Below.trans ?_ (Below.mono hb ?_)); rotate_left; focus (first | omega | (simp; done) | (simp; omega))))))) (HX.out.below (by (repeat (first | with_reducible assumption | with_reducible exact Below.refl _ _ | with_reducible refine Below.drew ?_ | with_reducible refine belowDrewN ?_ _ | ((with_reducible refine Below.setCell ?_ ?_ _); rotate_left; focus (first | omega | (simp; done) | (simp; omega))) | ((with_reducible refine Below.alloc ?_ ?_ _); rotate_left; focus (first | omega | (simp; done) | (simp; omega))) | ((with_reducible refine Below.trans ?_ (Below.mono hb ?_)); rotate_left; focus (first | omega | (simp; done) | (simp; omega)))))))).mono ?_
          rintro e w3 ⟨rfl, rfl⟩
          go_wp2_with fail
          go_roundw
          case rel => exact ⟨j + 1, a', cap', ms', by omega, by go_num, rfl, by rw [HST.out]; exact HI'.out, HROW1.out, HIL.out, HQ1'.out, hbB, by simp; omega⟩
          case measure => simp [intOf]; omega
      · have hss := ba_ne hs
        have hcn := candB_no1 (s := s) (x := x) (b := .mk s1 x1 k1 n1) hs
        have hst := cands_no hd hcn
        have HD := Lib.hid hd; clear hd; have HX1 := Lib.hid hx1; clear hx1; have HI' := Lib.hid hi'; clear hi'; have HROW := Lib.hid hrow; clear hrow; have HROW1 := Lib.hid hrow1; clear hrow1; have HIL := Lib.hid hil; clear hil; have HS := Lib.hid hs; clear hs; have HCN := Lib.hid hcn; clear hcn; have HST := Lib.hid hst; clear hst; have HQ0 := Lib.hid hq0; clear hq0; have HQ1' := Lib.hid hq1'; clear hq1'
        go_wp2_with fail
        go_roundw
        case rel => exact ⟨j + 1, a', cap', ms', by omega, by go_num, rfl, by rw [HST.out]; exact HI'.out, HROW1.out, HIL.out, HQ1'.out, hbB, by simp; omega⟩
        case measure => simp [intOf]; omega
    · have hj2 : j = ms.length := by omega
      subst hj2
      rw [HL.out, List.take_length] at hi'
      have hfin := ownsRow_in hrow (bnds_cells hi') (M.InL.frame (fun p v hc => (hb.cell (p := p) (World.block_lt_of_cell? w p hc)).trans hc) _ hil)
      have HI' := Lib.hid hi'; clear hi'; have HROW := Lib.hid hrow; clear hrow; have HQ := Lib.hid hq; clear hq; have HIL := Lib.hid hil; clear hil; have HFIN := Lib.hid hfin; clear hfin
      go_wp2_with fail
      go_ret
      exact ⟨a', cap', ms', rfl, HI'.out, HFIN.out, hb⟩
end Go.Proofs.Ytghbnehocggnnaa

/-
  Walks: the program's lookUp. No condition.
-/
set_option linter.unusedVariables false
set_option linter.unusedSimpArgs false
set_option maxRecDepth 100000
namespace Go.Proofs.Ytghbnehocggnnaa
open Go.RowKit

theorem RetEq.q {v : Value} {w : World} {e : Ending} {w' : World} (h : RetEq v w e w') : RetQ v w e w' := ⟨h.1, 0, h.2.symm⟩
/-- What resolving hands back. -/
def RetRes (r : Bnd × Int) (w : World) (en : Ending) (w' : World) : Prop :=
  ∃ xa xc, en = .returned (.tuple #[.agg #[.string r.1.s, .slice xa r.1.x.length xc, .int .i64 r.1.k, .int .i64 r.1.n], .int .i64 r.2]) ∧ (M.sl xa xc 1 3 (intM r.1.x)).Mine w' w.heap.size ∧ Below w.heap.size w w'
/-- the best so far -/
def BestAt (s : ByteArray) (x : List Int) (ds : List Bnd) (j : Nat) (b : Int) : Prop :=
  (b = -1 ∧ bestOf (cands s x (ds.take j)) = none) ∨ ∃ (i : Nat) (c : Bnd), b = (i : Int) ∧ i < j ∧ ds[i]? = some c ∧ bestOf (cands s x (ds.take j)) = some c
theorem BestAt.zero (s : ByteArray) (x : List Int) (ds : List Bnd) : BestAt s x ds 0 (-1) := .inl ⟨rfl, by simp [cands, bestOf]⟩
theorem BestAt.no {s : ByteArray} {x : List Int} {ds : List Bnd} {j : Nat} {b : Int} {d : Bnd} (h : BestAt s x ds j b) (hd : ds[j]? = some d) (hc : candB s x d = false) : BestAt s x ds (j + 1) b := by
  rcases h with ⟨h1, h2⟩ | ⟨i, c, h1, h2, h3, h4⟩
  · exact .inl ⟨h1, by rw [cands_no hd hc]; exact h2⟩
  · exact .inr ⟨i, c, h1, by omega, h3, by rw [cands_no hd hc]; exact h4⟩
theorem BestAt.first {s : ByteArray} {x : List Int} {ds : List Bnd} {j : Nat} {d : Bnd} (h2 : bestOf (cands s x (ds.take j)) = none) (hd : ds[j]? = some d) (hc : candB s x d = true) : BestAt s x ds (j + 1) (j : Int) :=
  .inr ⟨j, d, rfl, by omega, hd, by rw [cands_yes hd hc, bestOf_snoc, h2]; rfl⟩
theorem BestAt.more {s : ByteArray} {x : List Int} {ds : List Bnd} {j : Nat} {d c : Bnd} (h2 : bestOf (cands s x (ds.take j)) = some c) (hd : ds[j]? = some d) (hc : candB s x d = true) (hl : c.x.length < d.x.length) : BestAt s x ds (j + 1) (j : Int) :=
  .inr ⟨j, d, rfl, by omega, hd, by rw [cands_yes hd hc, bestOf_snoc, h2]; simp [better, hl]⟩
theorem BestAt.stay {s : ByteArray} {x : List Int} {ds : List Bnd} {i j : Nat} {d c : Bnd} (hi : i < j) (hdi : ds[i]? = some c) (h2 : bestOf (cands s x (ds.take j)) = some c) (hd : ds[j]? = some d) (hc : candB s x d = true) (hl : ¬ c.x.length < d.x.length) : BestAt s x ds (j + 1) (i : Int) :=
  .inr ⟨i, c, rfl, by omega, hdi, by rw [cands_yes hd hc, bestOf_snoc, h2]; simp [better, hl]⟩
theorem iWithin_q (a : Option Addr) (cap : Nat) (l : List Int) (a' : Option Addr) (cap' : Nat) (r : List Int) (w : World) (h : (M.sl a cap 1 3 (intM l)).In w) (h' : (M.sl a' cap' 1 3 (intM r)).In w) :
    Calls Try.prog 73 #[.slice a l.length cap, .slice a' r.length cap'] w (RetQ (.bool (subB l r)) w) := (iWithin_eq a cap l a' cap' r w h h').mono fun _ _ h => h.q
set_option maxHeartbeats 4000000 in
theorem lookUp_calls (ds : List Bnd) (a : Option Addr) (cap : Nat) (ms : List M) (k n : Int) (s : ByteArray) (x : List Int) (xa : Option Addr) (xc : Nat) (ia : Option Addr) (il ic : Nat) (w : World)
    (hB : ds.length + Bnd.wtX ds ≤ 4000000) (hi : Bnd.IsL ds ms) (hin : (M.sl a cap 4 33 ms).In w) (hx : (M.sl xa xc 1 3 (intM x)).In w) :
    Calls Try.prog 46 #[.slice a ms.length cap, .agg #[.int .i64 k, .int .i64 n, .string s, .slice xa x.length xc, .slice ia il ic]] w (RetRes (resB s x ds) w) := by
  have hl := hi.length
  have hcap := hin.len
  have hxl := Ints.len hx
  have HI := Lib.hid hi; clear hi; have HIN := Lib.hid hin; clear hin; have HX := Lib.hid hx; clear hx; have HL := Lib.hid hl; clear hl
  go_enter Try.func46, Try.ntmps46
  go_wp2_with fail
  go_loopw [6, 13] (fun t i wr => ∃ (j : Nat) (bi : Int), j ≤ ms.length ∧ i = .int .i64 j ∧ t = .int .i64 bi ∧ BestAt s x ds j bi ∧ SBox w.heap.size k n s (.slice xa x.length xc) (.slice ia il ic) wr ∧ BBox (w.heap.size + 1) ⟨#[]⟩ (.slice none 0 0) 0 0 wr ∧ Below w.heap.size w wr ∧ w.heap.size + 1 + 1 ≤ wr.heap.size) (fun _ i _ => ms.length - (intOf i).toNat)
  case atStart => exact ⟨0, -1, Nat.zero_le _, rfl, rfl, BestAt.zero _ _ _, (SBox.new _ _ _ _ _ _).of (heapNew _ _ _ (by simp)), (by have h := BBox.new ⟨#[]⟩ (.slice none 0 0) 0 0 (w.alloc (.cells #[.int .i64 k, .int .i64 n, .string s, .slice xa x.length xc, .slice ia il ic] 27)); simpa using h), by (repeat (first | with_reducible assumption | with_reducible exact Below.refl _ _ | with_reducible refine Below.drew ?_ | with_reducible refine belowDrewN ?_ _ | ((with_reducible refine Below.setCell ?_ ?_ _); rotate_left; focus (first | omega | (simp; done) | (simp; omega))) | ((with_reducible refine Below.alloc ?_ ?_ _); rotate_left; focus (first | omega | (simp; done) | (simp; omega))))), by simp⟩
  case round =>
    obtain ⟨j, bi, hj, rfl, rfl, hbest, hq, hr, hb, hsz⟩ := hrel
    have p1 := hq.lt
    have p2 := hr.lt
    have hq0 := hq
    obtain ⟨q0, q1, q2, q3, q4, f0, f1, f2, f3, f4⟩ := hq
    by_cases hlt : j < ms.length
    · obtain ⟨b, off, s1, x1, k1, n1, xa1, xc1, rfl, hd, hx1, c0, c1, c2, c3⟩ := Bnd.elem HIN.out HI.out j hlt
      have hbl := World.block_lt_of_cell? w _ c0
      replace c0 := (hb.cell (p := ⟨b, off + j * 4, none⟩) hbl).trans c0
      replace c1 := (hb.cell (p := ⟨b, off + j * 4 + 1, none⟩) hbl).trans c1
      replace c2 := (hb.cell (p := ⟨b, off + j * 4 + 2, none⟩) hbl).trans c2
      replace c3 := (hb.cell (p := ⟨b, off + j * 4 + 3, none⟩) hbl).trans c3
      have hbA : Below wr.heap.size wr (wr.alloc (.cells #[.string s1, .slice xa1 x1.length xc1, .int .i64 k1, .int .i64 n1] 33)) := by (repeat (first | with_reducible assumption | with_reducible exact Below.refl _ _ | with_reducible refine Below.drew ?_ | with_reducible refine belowDrewN ?_ _ | ((with_reducible refine Below.setCell ?_ ?_ _); rotate_left; focus (first | omega | (simp; done) | (simp; omega))) | ((with_reducible refine Below.alloc ?_ ?_ _); rotate_left; focus (first | omega | (simp; done) | (simp; omega)))))
      have hq1' := hq0.below hbA p1
      have hr1' := hr.below hbA p2
      have hbB : Below w.heap.size w (wr.alloc (.cells #[.string s1, .slice xa1 x1.length xc1, .int .i64 k1, .int .i64 n1] 33)) := by (repeat (first | with_reducible assumption | with_reducible exact Below.refl _ _ | with_reducible refine Below.drew ?_ | with_reducible refine belowDrewN ?_ _ | ((with_reducible refine Below.setCell ?_ ?_ _); rotate_left; focus (first | omega | (simp; done) | (simp; omega))) | ((with_reducible refine Below.alloc ?_ ?_ _); rotate_left; focus (first | omega | (simp; done) | (simp; omega))) | ((with_reducible refine Below.trans ?_ (Below.mono hb ?_)); rotate_left; focus (first | omega | (simp; done) | (simp; omega)))))
      by_cases hs : s1 = s
      · have hss : (s1.toList == s.toList) = true := by rw [hs]; simp
        cases hsub : subB x1 x with
        | true =>
          have hcy := candB_yes (b := .mk s1 x1 k1 n1) hs hsub
          rcases hbest with ⟨rfl, hn⟩ | ⟨i, ⟨si, xi, ki, ni⟩, rfl, hij, hdi, hsome⟩
          · have hnext := BestAt.first hn hd hcy
            have HD := Lib.hid hd; clear hd; have HX1 := Lib.hid hx1; clear hx1; have HS := Lib.hid hs; clear hs; have HCY := Lib.hid hcy; clear hcy; have HN := Lib.hid hn; clear hn; have HNEXT := Lib.hid hnext; clear hnext; have HQ0 := Lib.hid hq0; clear hq0; have HQ1' := Lib.hid hq1'; clear hq1'; have HR := Lib.hid hr; clear hr; have HR1' := Lib.hid hr1'; clear hr1'; have HBA := Lib.hid hbA; clear hbA; have HBB := Lib.hid hbB; clear hbB
            go_wp2_with fail
            go_quiet (first | (go_at_call 73; refine Calls.quiet_of (iWithin_q xa1 xc1 x1 xa xc x _ (HX1.out.below (by (repeat (first | with_reducible assumption | with_reducible exact Below.refl _ _ | with_reducible refine Below.drew ?_ | with_reducible refine belowDrewN ?_ _ | ((with_reducible refine Below.setCell ?_ ?_ _); rotate_left; focus (first | omega | (simp; done) | (simp; omega))) | ((with_reducible refine Below.alloc ?_ ?_ _); rotate_left; focus (first | omega | (simp; done) | (simp; omega))) | ((with_reducible refine Below.trans ?_ (Below.mono hb ?_)); rotate_left; focus (first | omega | (simp; done) | (simp; omega))))))) (HX.out.below (by (repeat (first | with_reducible assumption | with_reducible exact Below.refl _ _ | with_reducible refine Below.drew ?_ | with_reducible refine belowDrewN ?_ _ | ((with_reducible refine Below.setCell ?_ ?_ _); rotate_left; focus (first | omega | (simp; done) | (simp; omega))) | ((with_reducible refine Below.alloc ?_ ?_ _); rotate_left; focus (first | omega | (simp; done) | (simp; omega))) | ((with_reducible refine Below.trans ?_ (Below.mono hb ?_)); rotate_left; focus (first | omega | (simp; done) | (simp; omega))))))))))
            try simp only [hsub]
            go_wp2_with fail
            go_roundw
            case rel => exact ⟨j + 1, (j : Int), by omega, by go_num, rfl, HNEXT.out, HQ1'.out.of (heapDrewN _ _ _), HR1'.out.of (heapDrewN _ _ _), belowDrewN HBB.out _, by simp; omega⟩
            case measure => simp [intOf]; omega
          · obtain ⟨b', off', si', xi', ki', ni', xai, xci, hbo, hdi', hxi, e0, e1, e2, e3⟩ := Bnd.elem HIN.out HI.out i (by omega)
            simp only [Option.some.injEq, Addr.mk.injEq, and_true] at hbo
            obtain ⟨rfl, rfl⟩ := hbo
            rw [hdi] at hdi'
            simp only [Option.some.injEq, Bnd.mk.injEq] at hdi'
            obtain ⟨rfl, rfl, rfl, rfl⟩ := hdi'
            replace e1 := (hb.cell (p := ⟨b, off + i * 4 + 1, none⟩) hbl).trans e1
            clear e0 e2 e3
            have hbw := World.block_lt_of_cell? wr _ e1
            have hi0 : (0 : Int) ≤ (i : Int) := by omega
            have him : (i : Int) < (ms.length : Int) := by omega
            have hilt : i < ms.length := by omega
            by_cases hlen : xi.length < x1.length
            · have hnext := BestAt.more hsome hd hcy hlen
              have hlen' : (xi.length : Int) < (x1.length : Int) := by omega
              have HD := Lib.hid hd; clear hd; have HX1 := Lib.hid hx1; clear hx1; have HXI := Lib.hid hxi; clear hxi; have HS := Lib.hid hs; clear hs; have HCY := Lib.hid hcy; clear hcy; have HSOME := Lib.hid hsome; clear hsome; have HNEXT := Lib.hid hnext; clear hnext; have HQ0 := Lib.hid hq0; clear hq0; have HQ1' := Lib.hid hq1'; clear hq1'; have HR := Lib.hid hr; clear hr; have HR1' := Lib.hid hr1'; clear hr1'; have HBA := Lib.hid hbA; clear hbA; have HBB := Lib.hid hbB; clear hbB; have HDI := Lib.hid hdi; clear hdi; have HIJ := Lib.hid hij; clear hij; have HLEN := Lib.hid hlen; clear hlen
              go_wp2_with fail
              go_quiet (first | (go_at_call 73; refine Calls.quiet_of (iWithin_q xa1 xc1 x1 xa xc x _ (HX1.out.below (by (repeat (first | with_reducible assumption | with_reducible exact Below.refl _ _ | with_reducible refine Below.drew ?_ | with_reducible refine belowDrewN ?_ _ | ((with_reducible refine Below.setCell ?_ ?_ _); rotate_left; focus (first | omega | (simp; done) | (simp; omega))) | ((with_reducible refine Below.alloc ?_ ?_ _); rotate_left; focus (first | omega | (simp; done) | (simp; omega))) | ((with_reducible refine Below.trans ?_ (Below.mono hb ?_)); rotate_left; focus (first | omega | (simp; done) | (simp; omega))))))) (HX.out.below (by (repeat (first | with_reducible assumption | with_reducible exact Below.refl _ _ | with_reducible refine Below.drew ?_ | with_reducible refine belowDrewN ?_ _ | ((with_reducible refine Below.setCell ?_ ?_ _); rotate_left; focus (first | omega | (simp; done) | (simp; omega))) | ((with_reducible refine Below.alloc ?_ ?_ _); rotate_left; focus (first | omega | (simp; done) | (simp; omega))) | ((with_reducible refine Below.trans ?_ (Below.mono hb ?_)); rotate_left; focus (first | omega | (simp; done) | (simp; omega))))))))))
              try simp only [hsub]
              go_wp2_with fail
              go_roundw
              case rel => exact ⟨j + 1, (j : Int), by omega, by go_num, rfl, HNEXT.out, HQ1'.out.of (heapDrewN _ _ _), HR1'.out.of (heapDrewN _ _ _), belowDrewN HBB.out _, by simp; omega⟩
              case measure => simp [intOf]; omega
            · have hnext := BestAt.stay hij hdi hsome hd hcy hlen
              have hlen' : ¬ (xi.length : Int) < (x1.length : Int) := by omega
              have HD := Lib.hid hd; clear hd; have HX1 := Lib.hid hx1; clear hx1; have HXI := Lib.hid hxi; clear hxi; have HS := Lib.hid hs; clear hs; have HCY := Lib.hid hcy; clear hcy; have HSOME := Lib.hid hsome; clear hsome; have HNEXT := Lib.hid hnext; clear hnext; have HQ0 := Lib.hid hq0; clear hq0; have HQ1' := Lib.hid hq1'; clear hq1'; have HR := Lib.hid hr; clear hr; have HR1' := Lib.hid hr1'; clear hr1'; have HBA := Lib.hid hbA; clear hbA; have HBB := Lib.hid hbB; clear hbB; have HDI := Lib.hid hdi; clear hdi; have HIJ := Lib.hid hij; clear hij; have HLEN := Lib.hid hlen; clear hlen
              go_wp2_with fail
              go_quiet (first | (go_at_call 73; refine Calls.quiet_of (iWithin_q xa1 xc1 x1 xa xc x _ (HX1.out.below (by (repeat (first | with_reducible assumption | with_reducible exact Below.refl _ _ | with_reducible refine Below.drew ?_ | with_reducible refine belowDrewN ?_ _ | ((with_reducible refine Below.setCell ?_ ?_ _); rotate_left; focus (first | omega | (simp; done) | (simp; omega))) | ((with_reducible refine Below.alloc ?_ ?_ _); rotate_left; focus (first | omega | (simp; done) | (simp; omega))) | ((with_reducible refine Below.trans ?_ (Below.mono hb ?_)); rotate_left; focus (first | omega | (simp; done) | (simp; omega))))))) (HX.out.below (by (repeat (first | with_reducible assumption | with_reducible exact Below.refl _ _ | with_reducible refine Below.drew ?_ | with_reducible refine belowDrewN ?_ _ | ((with_reducible refine Below.setCell ?_ ?_ _); rotate_left; focus (first | omega | (simp; done) | (simp; omega))) | ((with_reducible refine Below.alloc ?_ ?_ _); rotate_left; focus (first | omega | (simp; done) | (simp; omega))) | ((with_reducible refine Below.trans ?_ (Below.mono hb ?_)); rotate_left; focus (first | omega | (simp; done) | (simp; omega))))))))))
              try simp only [hsub]
              go_wp2_with fail
              go_roundw
              case rel => exact ⟨j + 1, (i : Int), by omega, by go_num, rfl, HNEXT.out, HQ1'.out.of (heapDrewN _ _ _), HR1'.out.of (heapDrewN _ _ _), belowDrewN HBB.out _, by simp; omega⟩
              case measure => simp [intOf]; omega
        | false =>
          have hnext := hbest.no hd (candB_no2 (b := .mk s1 x1 k1 n1) hsub)
          have HD := Lib.hid hd; clear hd; have HX1 := Lib.hid hx1; clear hx1; have HS := Lib.hid hs; clear hs; have HBEST := Lib.hid hbest; clear hbest; have HNEXT := Lib.hid hnext; clear hnext; have HQ0 := Lib.hid hq0; clear hq0; have HQ1' := Lib.hid hq1'; clear hq1'; have HR := Lib.hid hr; clear hr; have HR1' := Lib.hid hr1'; clear hr1'; have HBA := Lib.hid hbA; clear hbA; have HBB := Lib.hid hbB; clear hbB
          go_wp2_with fail
          go_quiet (first | (go_at_call 73; refine Calls.quiet_of (iWithin_q xa1 xc1 x1 xa xc x _ (HX1.out.below (by (repeat (first | with_reducible assumption | with_reducible exact Below.refl _ _ | with_reducible refine Below.drew ?_ | with_reducible refine belowDrewN ?_ _ | ((with_reducible refine Below.setCell ?_ ?_ _); rotate_left; focus (first | omega | (simp; done) | (simp; omega))) | ((with_reducible refine Below.alloc ?_ ?_ _); rotate_left; focus (first | omega | (simp; done) | (simp; omega))) | ((with_reducible refine Below.trans ?_ (Below.mono hb ?_)); rotate_left; focus (first | omega | (simp; done) | (simp; omega))))))) (HX.out.below (by (repeat (first | with_reducible assumption | with_reducible exact Below.refl _ _ | with_reducible refine Below.drew ?_ | with_reducible refine belowDrewN ?_ _ | ((with_reducible refine Below.setCell ?_ ?_ _); rotate_left; focus (first | omega | (simp; done) | (simp; omega))) | ((with_reducible refine Below.alloc ?_ ?_ _); rotate_left; focus (first | omega | (simp; done) | (simp; omega))) | ((with_reducible refine Below.trans ?_ (Below.mono hb ?_)); rotate_left; focus (first | omega | (simp; done) | (simp; omega))))))))))
          try simp only [hsub]
          go_wp2_with fail
          go_roundw
          case rel => exact ⟨j + 1, bi, by omega, by go_num, rfl, HNEXT.out, HQ1'.out.of (heapDrewN _ _ _), HR1'.out.of (heapDrewN _ _ _), belowDrewN HBB.out _, by simp; omega⟩
          case measure => simp [intOf]; omega
      · have hss := ba_ne hs
        have hnext := hbest.no hd (candB_no1 (b := .mk s1 x1 k1 n1) hs)
        have HD := Lib.hid hd; clear hd; have HX1 := Lib.hid hx1; clear hx1; have HS := Lib.hid hs; clear hs; have HBEST := Lib.hid hbest; clear hbest; have HNEXT := Lib.hid hnext; clear hnext; have HQ0 := Lib.hid hq0; clear hq0; have HQ1' := Lib.hid hq1'; clear hq1'; have HR := Lib.hid hr; clear hr; have HR1' := Lib.hid hr1'; clear hr1'; have HBA := Lib.hid hbA; clear hbA; have HBB := Lib.hid hbB; clear hbB
        go_wp2_with fail
        go_quiet (first | (go_at_call 73; refine Calls.quiet_of (iWithin_q xa1 xc1 x1 xa xc x _ (HX1.out.below (by (repeat (first | with_reducible assumption | with_reducible exact Below.refl _ _ | with_reducible refine Below.drew ?_ | with_reducible refine belowDrewN ?_ _ | ((with_reducible refine Below.setCell ?_ ?_ _); rotate_left; focus (first | omega | (simp; done) | (simp; omega))) | ((with_reducible refine Below.alloc ?_ ?_ _); rotate_left; focus (first | omega | (simp; done) | (simp; omega))) | ((with_reducible refine Below.trans ?_ (Below.mono hb ?_)); rotate_left; focus (first | omega | (simp; done) | (simp; omega))))))) (HX.out.below (by (repeat (first | with_reducible assumption | with_reducible exact Below.refl _ _ | with_reducible refine Below.drew ?_ | with_reducible refine belowDrewN ?_ _ | ((with_reducible refine Below.setCell ?_ ?_ _); rotate_left; focus (first | omega | (simp; done) | (simp; omega))) | ((with_reducible refine Below.alloc ?_ ?_ _); rotate_left; focus (first | omega | (simp; done) | (simp; omega))) | ((with_reducible refine Below.trans ?_ (Below.mono hb ?_)); rotate_left; focus (first | omega | (simp; done) | (simp; omega))))))))))
        go_wp2_with fail
        go_roundw
        case rel => exact ⟨j + 1, bi, by omega, by go_num, rfl, HNEXT.out, HQ1'.out.of (heapDrewN _ _ _), HR1'.out.of (heapDrewN _ _ _), belowDrewN HBB.out _, by simp; omega⟩
        case measure => simp [intOf]; omega
    · have hj2 : j = ms.length := by omega
      subst hj2
      rw [HL.out] at hbest
      rcases hbest with ⟨rfl, hn⟩ | ⟨i, ⟨si, xi, ki, ni⟩, rfl, hij, hdi, hsome⟩
      · rw [List.take_length] at hn
        have hres := resB_none hn
        obtain ⟨r0, r1, r2, r3, g0, g1, g2, g3⟩ := hr
        have HN := Lib.hid hn; clear hn; have HRES := Lib.hid hres; clear hres; have HQ0 := Lib.hid hq0; clear hq0
        go_wp2_with fail
        refine bodyPost_ret (v := .tuple #[.agg #[.string ⟨#[]⟩, .slice none 0 0, .int .i64 0, .int .i64 0], .int .i64 0]) (by simp [results, Try.results46, go_sem, r0, r1, r2, r3]) rfl ?_
        rw [HRES.out]
        exact ⟨none, 0, rfl, M.Mine.nil _ _ _ _ (by decide), by (repeat (first | with_reducible assumption | with_reducible exact Below.refl _ _ | with_reducible refine Below.drew ?_ | with_reducible refine belowDrewN ?_ _ | ((with_reducible refine Below.setCell ?_ ?_ _); rotate_left; focus (first | omega | (simp; done) | (simp; omega))) | ((with_reducible refine Below.alloc ?_ ?_ _); rotate_left; focus (first | omega | (simp; done) | (simp; omega))) | ((with_reducible refine Below.trans ?_ (Below.mono hb ?_)); rotate_left; focus (first | omega | (simp; done) | (simp; omega)))))⟩
      · rw [List.take_length] at hsome
        have hilt : i < ms.length := by have := HL.out; omega
        obtain ⟨b', off', si', xi', ki', ni', xai, xci, rfl, hdi', hxi, e0, e1, e2, e3⟩ := Bnd.elem HIN.out HI.out i hilt
        rw [hdi] at hdi'
        simp only [Option.some.injEq, Bnd.mk.injEq] at hdi'
        obtain ⟨rfl, rfl, rfl, rfl⟩ := hdi'
        have hbl := World.block_lt_of_cell? w _ e0
        have hi0 : (0 : Int) ≤ (i : Int) := by omega
        have hineg : ¬ (i : Int) < 0 := by omega
        have him : (i : Int) < (ms.length : Int) := by omega
        have hxB : xi.length ≤ 4000000 := Bnd.x_le hdi (by omega)
        have HSOME := Lib.hid hsome; clear hsome; have HDI := Lib.hid hdi; clear hdi; have HQ0 := Lib.hid hq0; clear hq0; have HR := Lib.hid hr; clear hr; have HXI := Lib.hid hxi; clear hxi
        clear q0 q1 q2 q3 q4 f0 f1 f2 f3 f4 hij
        generalize hW1 : wr = wq at *
        clear hW1
        go_wp2_with fail
        go_loopw [53] (fun t wr => ∃ (j : Nat), j ≤ ms.length ∧ t = .int .i64 j ∧ (∀ c ∈ cands s x (ds.take j), subB c.x xi = true) ∧ SBox w.heap.size k n s (.slice xa x.length xc) (.slice ia il ic) wr ∧ BBox (w.heap.size + 1) ⟨#[]⟩ (.slice none 0 0) 0 0 wr ∧ Below w.heap.size w wr ∧ w.heap.size + 1 + 1 ≤ wr.heap.size) (fun t _ => ms.length - (intOf t).toNat)
        case atStart => exact ⟨0, Nat.zero_le _, rfl, by simp [cands], HQ0.out, HR.out, hb, hsz⟩
        case round =>
          obtain ⟨j, hj, rfl, hall, hq, hr, hb, hsz⟩ := hrel
          have p1 := hq.lt
          have p2 := hr.lt
          have hq0 := hq
          obtain ⟨q0, q1, q2, q3, q4, f0, f1, f2, f3, f4⟩ := hq
          have e1' := (hb.cell (p := ⟨b', off' + i * 4 + 1, none⟩) hbl).trans e1
          have hbw := World.block_lt_of_cell? wr _ e1'
          by_cases hlt : j < ms.length
          · obtain ⟨b, off, s1, x1, k1, n1, xa1, xc1, hbo, hd, hx1, c0, c1, c2, c3⟩ := Bnd.elem HIN.out HI.out j hlt
            simp only [Option.some.injEq, Addr.mk.injEq, and_true] at hbo
            obtain ⟨rfl, rfl⟩ := hbo
            replace c0 := (hb.cell (p := ⟨b', off' + j * 4, none⟩) hbl).trans c0
            replace c1 := (hb.cell (p := ⟨b', off' + j * 4 + 1, none⟩) hbl).trans c1
            replace c2 := (hb.cell (p := ⟨b', off' + j * 4 + 2, none⟩) hbl).trans c2
            replace c3 := (hb.cell (p := ⟨b', off' + j * 4 + 3, none⟩) hbl).trans c3
            have hbA : Below wr.heap.size wr (wr.alloc (.cells #[.string s1, .slice xa1 x1.length xc1, .int .i64 k1, .int .i64 n1] 33)) := by (repeat (first | with_reducible assumption | with_reducible exact Below.refl _ _ | with_reducible refine Below.drew ?_ | with_reducible refine belowDrewN ?_ _ | ((with_reducible refine Below.setCell ?_ ?_ _); rotate_left; focus (first | omega | (simp; done) | (simp; omega))) | ((with_reducible refine Below.alloc ?_ ?_ _); rotate_left; focus (first | omega | (simp; done) | (simp; omega)))))
            have hq1' := hq0.below hbA p1
            have hr1' := hr.below hbA p2
            have hbB : Below w.heap.size w (wr.alloc (.cells #[.string s1, .slice xa1 x1.length xc1, .int .i64 k1, .int .i64 n1] 33)) := by (repeat (first | with_reducible assumption | with_reducible exact Below.refl _ _ | with_reducible refine Below.drew ?_ | with_reducible refine belowDrewN ?_ _ | ((with_reducible refine Below.setCell ?_ ?_ _); rotate_left; focus (first | omega | (simp; done) | (simp; omega))) | ((with_reducible refine Below.alloc ?_ ?_ _); rotate_left; focus (first | omega | (simp; done) | (simp; omega))) | ((with_reducible refine Below.trans ?_ (Below.mono hb ?_)); rotate_left; focus (first | omega | (simp; done) | (simp; omega)))))
            by_cases hs : s1 = s
            · have hss : (s1.toList == s.toList) = true := by rw [hs]; simp
              cases hsub : subB x1 x with
              | true =>
                have hcy := candB_yes (b := .mk s1 x1 k1 n1) hs hsub
                cases hsub2 : subB x1 xi with
                | true =>
                  have hnext : ∀ c ∈ cands s x (ds.take (j + 1)), subB c.x xi = true := by
                    rw [cands_yes hd hcy]; intro c hc
                    rcases List.mem_append.1 hc with hc | hc
                    · exact hall c hc
                    · simp at hc; subst hc; exact hsub2
                  have HD := Lib.hid hd; clear hd; have HX1 := Lib.hid hx1; clear hx1; have HS := Lib.hid hs; clear hs; have HCY := Lib.hid hcy; clear hcy; have HNEXT := Lib.hid hnext; clear hnext; have HALL := Lib.hid hall; clear hall; have HQ0 := Lib.hid hq0; clear hq0; have HQ1' := Lib.hid hq1'; clear hq1'; have HR := Lib.hid hr; clear hr; have HR1' := Lib.hid hr1'; clear hr1'; have HBA := Lib.hid hbA; clear hbA; have HBB := Lib.hid hbB; clear hbB
                  go_wp2_with fail
                  go_quiet (first | (go_at_call 73; (with_reducible refine Calls.quiet_of (iWithin_q xa1 xc1 x1 xa xc x _ (HX1.out.below (by (repeat (first | with_reducible assumption | with_reducible exact Below.refl _ _ | with_reducible refine Below.drew ?_ | with_reducible refine belowDrewN ?_ _ | ((with_reducible refine Below.setCell ?_ ?_ _); rotate_left; focus (first | omega | (simp; done) | (simp; omega))) | ((with_reducible refine Below.alloc ?_ ?_ _); rotate_left; focus (first | omega | (simp; done) | (simp; omega))) | ((with_reducible refine Below.trans ?_ (Below.mono hb ?_)); rotate_left; focus (first | omega | (simp; done) | (simp; omega))))))) (HX.out.below (by (repeat (first | with_reducible assumption | with_reducible exact Below.refl _ _ | with_reducible refine Below.drew ?_ | with_reducible refine belowDrewN ?_ _ | ((with_reducible refine Below.setCell ?_ ?_ _); rotate_left; focus (first | omega | (simp; done) | (simp; omega))) | ((with_reducible refine Below.alloc ?_ ?_ _); rotate_left; focus (first | omega | (simp; done) | (simp; omega))) | ((with_reducible refine Below.trans ?_ (Below.mono hb ?_)); rotate_left; focus (first | omega | (simp; done) | (simp; omega)))))))))) | (go_at_call 73; (with_reducible refine Calls.quiet_of (iWithin_q xa1 xc1 x1 xai xci xi _ (HX1.out.below (by (repeat (first | with_reducible assumption | with_reducible exact Below.refl _ _ | with_reducible refine Below.drew ?_ | with_reducible refine belowDrewN ?_ _ | ((with_reducible refine Below.setCell ?_ ?_ _); rotate_left; focus (first | omega | (simp; done) | (simp; omega))) | ((with_reducible refine Below.alloc ?_ ?_ _); rotate_left; focus (first | omega | (simp; done) | (simp; omega))) | ((with_reducible refine Below.trans ?_ (Below.mono hb ?_)); rotate_left; focus (first | omega | (simp; done) | (simp; omega))))))) (HXI.out.below (by (repeat (first | with_reducible assumption | with_reducible exact Below.refl _ _ | with_reducible refine Below.drew ?_ | with_reducible refine belowDrewN ?_ _ | ((with_reducible refine Below.setCell ?_ ?_ _); rotate_left; focus (first | omega | (simp; done) | (simp; omega))) | ((with_reducible refine Below.alloc ?_ ?_ _); rotate_left; focus (first | omega | (simp; done) | (simp; omega))) | ((with_reducible refine Below.trans ?_ (Below.mono hb ?_)); rotate_left; focus (first | omega | (simp; done) | (simp; omega)))))))))))
                  try simp only [hsub, hsub2]
                  go_wp2_with fail
                  go_roundw
                  case rel => exact ⟨j + 1, by omega, by go_num, HNEXT.out, HQ1'.out.of (heapDrewN _ _ _), HR1'.out.of (heapDrewN _ _ _), belowDrewN HBB.out _, by simp; omega⟩
                  case measure => simp [intOf]; omega
                | false =>
                  have hres := resB_amb HSOME.out (cands_mem.2 ⟨List.mem_of_getElem? hd, hcy⟩) hsub2
                  obtain ⟨r0, r1, r2, r3, g0, g1, g2, g3⟩ := hr
                  have hr2 : BBox (w.heap.size + 1) ⟨#[]⟩ (.slice none 0 0) 0 0 wr := ⟨r0, r1, r2, r3, g0, g1, g2, g3⟩
                  have HD := Lib.hid hd; clear hd; have HX1 := Lib.hid hx1; clear hx1; have HS := Lib.hid hs; clear hs; have HCY := Lib.hid hcy; clear hcy; have HALL := Lib.hid hall; clear hall; have HQ0 := Lib.hid hq0; clear hq0; have HQ1' := Lib.hid hq1'; clear hq1'; have HR1' := Lib.hid hr1'; clear hr1'; have HR2 := Lib.hid hr2; clear hr2; have HBA := Lib.hid hbA; clear hbA; have HBB := Lib.hid hbB; clear hbB; have HRES := Lib.hid hres; clear hres
                  go_wp2_with fail
                  go_quiet (first | (go_at_call 73; (with_reducible refine Calls.quiet_of (iWithin_q xa1 xc1 x1 xa xc x _ (HX1.out.below (by (repeat (first | with_reducible assumption | with_reducible exact Below.refl _ _ | with_reducible refine Below.drew ?_ | with_reducible refine belowDrewN ?_ _ | ((with_reducible refine Below.setCell ?_ ?_ _); rotate_left; focus (first | omega | (simp; done) | (simp; omega))) | ((with_reducible refine Below.alloc ?_ ?_ _); rotate_left; focus (first | omega | (simp; done) | (simp; omega))) | ((with_reducible refine Below.trans ?_ (Below.mono hb ?_)); rotate_left; focus (first | omega | (simp; done) | (simp; omega))))))) (HX.out.below (by (repeat (first | with_reducible assumption | with_reducible exact Below.refl _ _ | with_reducible refine Below.drew ?_ | with_reducible refine belowDrewN ?_ _ | ((with_reducible refine Below.setCell ?_ ?_ _); rotate_left; focus (first | omega | (simp; done) | (simp; omega))) | ((with_reducible refine Below.alloc ?_ ?_ _); rotate_left; focus (first | omega | (simp; done) | (simp; omega))) | ((with_reducible refine Below.trans ?_ (Below.mono hb ?_)); rotate_left; focus (first | omega | (simp; done) | (simp; omega)))))))))) | (go_at_call 73; (with_reducible refine Calls.quiet_of (iWithin_q xa1 xc1 x1 xai xci xi _ (HX1.out.below (by (repeat (first | with_reducible assumption | with_reducible exact Below.refl _ _ | with_reducible refine Below.drew ?_ | with_reducible refine belowDrewN ?_ _ | ((with_reducible refine Below.setCell ?_ ?_ _); rotate_left; focus (first | omega | (simp; done) | (simp; omega))) | ((with_reducible refine Below.alloc ?_ ?_ _); rotate_left; focus (first | omega | (simp; done) | (simp; omega))) | ((with_reducible refine Below.trans ?_ (Below.mono hb ?_)); rotate_left; focus (first | omega | (simp; done) | (simp; omega))))))) (HXI.out.below (by (repeat (first | with_reducible assumption | with_reducible exact Below.refl _ _ | with_reducible refine Below.drew ?_ | with_reducible refine belowDrewN ?_ _ | ((with_reducible refine Below.setCell ?_ ?_ _); rotate_left; focus (first | omega | (simp; done) | (simp; omega))) | ((with_reducible refine Below.alloc ?_ ?_ _); rotate_left; focus (first | omega | (simp; done) | (simp; omega))) | ((with_reducible refine Below.trans ?_ (Below.mono hb ?_)); rotate_left; focus (first | omega | (simp; done) | (simp; omega)))))))))))
                  try simp only [hsub, hsub2]
                  go_wp2_with fail
                  refine bodyPost_ret (v := .tuple #[.agg #[.string ⟨#[]⟩, .slice none 0 0, .int .i64 0, .int .i64 0], .int .i64 2]) (by simp [results, Try.results46, go_sem, r0, r1, r2, r3, p2]) rfl ?_
                  rw [HRES.out]
                  exact ⟨none, 0, rfl, M.Mine.nil _ _ _ _ (by decide), by have := HBB.out; (repeat (first | with_reducible assumption | with_reducible exact Below.refl _ _ | with_reducible refine Below.drew ?_ | with_reducible refine belowDrewN ?_ _ | ((with_reducible refine Below.setCell ?_ ?_ _); rotate_left; focus (first | omega | (simp; done) | (simp; omega))) | ((with_reducible refine Below.alloc ?_ ?_ _); rotate_left; focus (first | omega | (simp; done) | (simp; omega))) | ((with_reducible refine Below.trans ?_ (Below.mono hb ?_)); rotate_left; focus (first | omega | (simp; done) | (simp; omega)))))⟩
              | false =>
                have hcn := candB_no2 (s := s) (x := x) (b := .mk s1 x1 k1 n1) hsub
                have hnext : ∀ c ∈ cands s x (ds.take (j + 1)), subB c.x xi = true := by rw [cands_no hd hcn]; exact hall
                have HD := Lib.hid hd; clear hd; have HX1 := Lib.hid hx1; clear hx1; have HS := Lib.hid hs; clear hs; have HCN := Lib.hid hcn; clear hcn; have HNEXT := Lib.hid hnext; clear hnext; have HALL := Lib.hid hall; clear hall; have HQ0 := Lib.hid hq0; clear hq0; have HQ1' := Lib.hid hq1'; clear hq1'; have HR := Lib.hid hr; clear hr; have HR1' := Lib.hid hr1'; clear hr1'; have HBA := Lib.hid hbA; clear hbA; have HBB := Lib.hid hbB; clear hbB
                go_wp2_with fail
                go_quiet (first | (go_at_call 73; (with_reducible refine Calls.quiet_of (iWithin_q xa1 xc1 x1 xa xc x _ (HX1.out.below (by (repeat (first | with_reducible assumption | with_reducible exact Below.refl _ _ | with_reducible refine Below.drew ?_ | with_reducible refine belowDrewN ?_ _ | ((with_reducible refine Below.setCell ?_ ?_ _); rotate_left; focus (first | omega | (simp; done) | (simp; omega))) | ((with_reducible refine Below.alloc ?_ ?_ _); rotate_left; focus (first | omega | (simp; done) | (simp; omega))) | ((with_reducible refine Below.trans ?_ (Below.mono hb ?_)); rotate_left; focus (first | omega | (simp; done) | (simp; omega))))))) (HX.out.below (by (repeat (first | with_reducible assumption | with_reducible exact Below.refl _ _ | with_reducible refine Below.drew ?_ | with_reducible refine belowDrewN ?_ _ | ((with_reducible refine Below.setCell ?_ ?_ _); rotate_left; focus (first | omega | (simp; done) | (simp; omega))) | ((with_reducible refine Below.alloc ?_ ?_ _); rotate_left; focus (first | omega | (simp; done) | (simp; omega))) | ((with_reducible refine Below.trans ?_ (Below.mono hb ?_)); rotate_left; focus (first | omega | (simp; done) | (simp; omega)))))))))) | (go_at_call 73; (with_reducible refine Calls.quiet_of (iWithin_q xa1 xc1 x1 xai xci xi _ (HX1.out.below (by (repeat (first | with_reducible assumption | with_reducible exact Below.refl _ _ | with_reducible refine Below.drew ?_ | with_reducible refine belowDrewN ?_ _ | ((with_reducible refine Below.setCell ?_ ?_ _); rotate_left; focus (first | omega | (simp; done) | (simp; omega))) | ((with_reducible refine Below.alloc ?_ ?_ _); rotate_left; focus (first | omega | (simp; done) | (simp; omega))) | ((with_reducible refine Below.trans ?_ (Below.mono hb ?_)); rotate_left; focus (first | omega | (simp; done) | (simp; omega))))))) (HXI.out.below (by (repeat (first | with_reducible assumption | with_reducible exact Below.refl _ _ | with_reducible refine Below.drew ?_ | with_reducible refine belowDrewN ?_ _ | ((with_reducible refine Below.setCell ?_ ?_ _); rotate_left; focus (first | omega | (simp; done) | (simp; omega))) | ((with_reducible refine Below.alloc ?_ ?_ _); rotate_left; focus (first | omega | (simp; done) | (simp; omega))) | ((with_reducible refine Below.trans ?_ (Below.mono hb ?_)); rotate_left; focus (first | omega | (simp; done) | (simp; omega)))))))))))
                try simp only [hsub]
                go_wp2_with fail
                go_roundw
                case rel => exact ⟨j + 1, by omega, by go_num, HNEXT.out, HQ1'.out.of (heapDrewN _ _ _), HR1'.out.of (heapDrewN _ _ _), belowDrewN HBB.out _, by simp; omega⟩
                case measure => simp [intOf]; omega
            · have hss := ba_ne hs
              have hcn := candB_no1 (s := s) (x := x) (b := .mk s1 x1 k1 n1) hs
              have hnext : ∀ c ∈ cands s x (ds.take (j + 1)), subB c.x xi = true := by rw [cands_no hd hcn]; exact hall
              have HD := Lib.hid hd; clear hd; have HX1 := Lib.hid hx1; clear hx1; have HS := Lib.hid hs; clear hs; have HCN := Lib.hid hcn; clear hcn; have HNEXT := Lib.hid hnext; clear hnext; have HALL := Lib.hid hall; clear hall; have HQ0 := Lib.hid hq0; clear hq0; have HQ1' := Lib.hid hq1'; clear hq1'; have HR := Lib.hid hr; clear hr; have HR1' := Lib.hid hr1'; clear hr1'; have HBA := Lib.hid hbA; clear hbA; have HBB := Lib.hid hbB; clear hbB
              go_wp2_with fail
              go_quiet (first | (go_at_call 73; (with_reducible refine Calls.quiet_of (iWithin_q xa1 xc1 x1 xa xc x _ (HX1.out.below (by (repeat (first | with_reducible assumption | with_reducible exact Below.refl _ _ | with_reducible refine Below.drew ?_ | with_reducible refine belowDrewN ?_ _ | ((with_reducible refine Below.setCell ?_ ?_ _); rotate_left; focus (first | omega | (simp; done) | (simp; omega))) | ((with_reducible refine Below.alloc ?_ ?_ _); rotate_left; focus (first | omega | (simp; done) | (simp; omega))) | ((with_reducible refine Below.trans ?_ (Below.mono hb ?_)); rotate_left; focus (first | omega | (simp; done) | (simp; omega))))))) (HX.out.below (by (repeat (first | with_reducible assumption | with_reducible exact Below.refl _ _ | with_reducible refine Below.drew ?_ | with_reducible refine belowDrewN ?_ _ | ((with_reducible refine Below.setCell ?_ ?_ _); rotate_left; focus (first | omega | (simp; done) | (simp; omega))) | ((with_reducible refine Below.alloc ?_ ?_ _); rotate_left; focus (first | omega | (simp; done) | (simp; omega))) | ((with_reducible refine Below.trans ?_ (Below.mono hb ?_)); rotate_left; focus (first | omega | (simp; done) | (simp; omega)))))))))) | (go_at_call 73; (with_reducible refine Calls.quiet_of (iWithin_q xa1 xc1 x1 xai xci xi _ (HX1.out.below (by (repeat (first | with_reducible assumption | with_reducible exact Below.refl _ _ | with_reducible refine Below.drew ?_ | with_reducible refine belowDrewN ?_ _ | ((with_reducible refine Below.setCell ?_ ?_ _); rotate_left; focus (first | omega | (simp; done) | (simp; omega))) | ((with_reducible refine Below.alloc ?_ ?_ _); rotate_left; focus (first | omega | (simp; done) | (simp; omega))) | ((with_reducible refine Below.trans ?_ (Below.mono hb ?_)); rotate_left; focus (first | omega | (simp; done) | (simp; omega))))))) (HXI.out.below (by (repeat (first | with_reducible assumption | with_reducible exact Below.refl _ _ | with_reducible refine Below.drew ?_ | with_reducible refine belowDrewN ?_ _ | ((with_reducible refine Below.setCell ?_ ?_ _); rotate_left; focus (first | omega | (simp; done) | (simp; omega))) | ((with_reducible refine Below.alloc ?_ ?_ _); rotate_left; focus (first | omega | (simp; done) | (simp; omega))) | ((with_reducible refine Below.trans ?_ (Below.mono hb ?_)); rotate_left; focus (first | omega | (simp; done) | (simp; omega)))))))))))
              go_wp2_with fail
              go_roundw
              case rel => exact ⟨j + 1, by omega, by go_num, HNEXT.out, HQ1'.out.of (heapDrewN _ _ _), HR1'.out.of (heapDrewN _ _ _), belowDrewN HBB.out _, by simp; omega⟩
              case measure => simp [intOf]; omega
          · have hj2 : j = ms.length := by omega
            subst hj2
            rw [HL.out, List.take_length] at hall
            have hres := resB_found HSOME.out hall
            replace e0 := (hb.cell (p := ⟨b', off' + i * 4, none⟩) hbl).trans e0
            replace e2 := (hb.cell (p := ⟨b', off' + i * 4 + 2, none⟩) hbl).trans e2
            replace e3 := (hb.cell (p := ⟨b', off' + i * 4 + 3, none⟩) hbl).trans e3
            have HALL := Lib.hid hall; clear hall; have HRES := Lib.hid hres; clear hres; have HQ0 := Lib.hid hq0; clear hq0; have HR := Lib.hid hr; clear hr
            clear q0 q1 q2 q3 q4 f0 f1 f2 f3 f4
            go_wp2_with fail
            refine (copyBinding_calls si xi ki ni xai xci _ hxB (HXI.out.below (by (repeat (first | with_reducible assumption | with_reducible exact Below.refl _ _ | with_reducible refine Below.drew ?_ | with_reducible refine belowDrewN ?_ _ | ((with_reducible refine Below.setCell ?_ ?_ _); rotate_left; focus (first | omega | (simp; done) | (simp; omega))) | ((with_reducible refine Below.alloc ?_ ?_ _); rotate_left; focus (first | omega | (simp; done) | (simp; omega))) | ((with_reducible refine Below.trans ?_ (Below.mono hb ?_)); rotate_left; focus (first | omega | (simp; done) | (simp; omega)))))))).mono ?_
            rintro e w5 ⟨xa5, xc5, rfl, hm5, hb5⟩
            have hz5 := hb5.size
            obtain ⟨r0, r1, r2, r3, g0, g1, g2, g3⟩ := HR.out.below hb5 p2
            simp only [Bnd.s_mk, Bnd.x_mk, Bnd.k_mk, Bnd.n_mk] at hm5 ⊢
            have HM5 := Lib.hid hm5; clear hm5
            go_wp2_with fail
            refine bodyPost_ret (v := .tuple #[.agg #[.string si, .slice xa5 xi.length xc5, .int .i64 ki, .int .i64 ni], .int .i64 1]) (by simp [results, Try.results46, go_sem, r0, r1, r2, r3]) rfl ?_
            rw [HRES.out]
            exact ⟨xa5, xc5, rfl, by (exact M.Mine.mono (M.Mine.keep HM5.out (fun b hb1 hb2 => by (try simp at hb1); simp (disch := (first | omega | (simp; omega))) only [heapSet, heapNew, heapDrew, heapDrewN])) (by first | omega | (simp; done) | (simp; omega))), by (repeat (first | with_reducible assumption | with_reducible exact Below.refl _ _ | with_reducible refine Below.drew ?_ | with_reducible refine belowDrewN ?_ _ | ((with_reducible refine Below.setCell ?_ ?_ _); rotate_left; focus (first | omega | (simp; done) | (simp; omega))) | ((with_reducible refine Below.alloc ?_ ?_ _); rotate_left; focus (first | omega | (simp; done) | (simp; omega))) | ((with_reducible refine Below.trans ?_ (Below.mono hb ?_)); rotate_left; focus (first | omega | (simp; done) | (simp; omega))) | ((with_reducible refine Below.trans ?_ (Below.mono hb5 ?_)); rotate_left; focus (first | omega | (simp; done) | (simp; omega)))))⟩
end Go.Proofs.Ytghbnehocggnnaa

/-
  Walks: the reference's Candidates. No condition.
-/
set_option linter.unusedVariables false
set_option linter.unusedSimpArgs false
set_option maxRecDepth 100000
namespace Go.Proofs.Ytghbnehocggnnaa
open Go.RowKit

set_option maxHeartbeats 2000000 in
theorem sCandidates_calls (ds : List Bnd) (a : Option Addr) (cap : Nat) (ms : List M) (k n : Int) (s : ByteArray) (x : List Int) (es : List Syn) (xa : Option Addr) (xc : Nat) (ia : Option Addr) (ic : Nat) (ims : List M) (w : World) (hwf : Bnd.wfL ds)
    (hB : ds.length + Bnd.wtX ds ≤ 4000000) (hi : Bnd.IsL ds ms) (hin : (M.sl a cap 4 33 ms).In w) (hwf2 : (Syn.mk k n s x es).wf) (hcB : Syn.countL es ≤ 1000000000) (hi2 : Syn.IsL 27 es ims) (hown : (SynOwn 27 xa xc x ia ic ims).In w) :
    Calls Try.prog 34 #[.slice a ms.length cap, .agg #[.int .i64 k, .int .i64 n, .string s, .slice xa x.length xc, .slice ia ims.length ic]] w (RetBnds 33 (candG (areB ds && isIdB k n s x es) s x ds) w) := by
  have hl := hi.length
  have hcap := hin.len
  have hx := SynIn_x hown
  have hxl := Ints.len hx
  have hcB2 : (cands s x ds).length + Bnd.wtX (cands s x ds) ≤ 4000000 := by
    have h1 := cands_length s x ds; have h2 : Bnd.wtX (cands s x ds) ≤ Bnd.wtX ds := Bnd.wtX_filter _ _; omega
  have HI := Lib.hid hi; clear hi; have HIN := Lib.hid hin; clear hin; have HX := Lib.hid hx; clear hx; have HWF := Lib.hid hwf; clear hwf; have HL := Lib.hid hl; clear hl; have HI2 := Lib.hid hi2; clear hi2; have HOWN := Lib.hid hown; clear hown; have HWF2 := Lib.hid hwf2; clear hwf2; have HCB2 := Lib.hid hcB2; clear hcB2
  go_enter Try.func34, Try.ntmps34
  go_wp2_with fail
  refine (sAreBindings_calls ds a cap ms _ HWF.out HI.out (HIN.out.below (by (repeat (first | with_reducible assumption | with_reducible exact Below.refl _ _ | with_reducible refine Below.drew ?_ | with_reducible refine belowDrewN ?_ _ | ((with_reducible refine Below.setCell ?_ ?_ _); rotate_left; focus (first | omega | (simp; done) | (simp; omega))) | ((with_reducible refine Below.alloc ?_ ?_ _); rotate_left; focus (first | omega | (simp; done) | (simp; omega)))))))).mono ?_
  rintro e w1 ⟨rfl, hb1⟩
  have hq1 : SBox w.heap.size k n s (.slice xa x.length xc) (.slice ia ims.length ic) w1 := (SBox.new k n s (.slice xa x.length xc) (.slice ia ims.length ic) w).below hb1 (by simp)
  have hz1 := hb1.size
  simp only [World.size_alloc] at hz1
  cases hA : areB ds with
  | false =>
    have hno : candG (areB ds && isIdB k n s x es) s x ds = [] := by rw [hA]; rfl
    have HA := Lib.hid hA; clear hA; have HNO := Lib.hid hno; clear hno
    clear hq1
    go_wp2_with fail
    go_ret
    exact ⟨none, 0, [], rfl, by rw [HNO.out]; rfl, M.Mine.nil _ _ _ _ (by decide), by (repeat (first | with_reducible assumption | with_reducible exact Below.refl _ _ | with_reducible refine Below.drew ?_ | with_reducible refine belowDrewN ?_ _ | ((with_reducible refine Below.setCell ?_ ?_ _); rotate_left; focus (first | omega | (simp; done) | (simp; omega))) | ((with_reducible refine Below.alloc ?_ ?_ _); rotate_left; focus (first | omega | (simp; done) | (simp; omega))) | ((with_reducible refine Below.trans ?_ (Below.mono hb1 ?_)); rotate_left; focus (first | omega | (simp; done) | (simp; omega)))))⟩
  | true =>
    have p0 := hq1.lt
    obtain ⟨q0, q1, q2, q3, q4, f0, f1, f2, f3, f4⟩ := hq1
    go_wp2_with fail
    refine (sIsIdentifier_calls k n s x es xa xc ia ic ims _ HWF2.out hcB HI2.out (HOWN.out.below (by (repeat (first | with_reducible assumption | with_reducible exact Below.refl _ _ | with_reducible refine Below.drew ?_ | with_reducible refine belowDrewN ?_ _ | ((with_reducible refine Below.setCell ?_ ?_ _); rotate_left; focus (first | omega | (simp; done) | (simp; omega))) | ((with_reducible refine Below.alloc ?_ ?_ _); rotate_left; focus (first | omega | (simp; done) | (simp; omega))) | ((with_reducible refine Below.trans ?_ (Below.mono hb1 ?_)); rotate_left; focus (first | omega | (simp; done) | (simp; omega)))))))).mono ?_
    rintro e w2 ⟨rfl, hb2⟩
    have hq2 : SBox w.heap.size k n s (.slice xa x.length xc) (.slice ia ims.length ic) w2 := SBox.below ⟨q0, q1, q2, q3, q4, f0, f1, f2, f3, f4⟩ hb2 p0
    clear q0 q1 q2 q3 q4 f0 f1 f2 f3 f4
    have hz2 := hb2.size
    cases hid : isIdB k n s x es with
    | false =>
      have hno : candG (areB ds && isIdB k n s x es) s x ds = [] := by rw [hA, hid]; rfl
      have HA := Lib.hid hA; clear hA; have HID := Lib.hid hid; clear hid; have HNO := Lib.hid hno; clear hno
      clear hq2
      go_wp2_with fail
      go_ret
      exact ⟨none, 0, [], rfl, by rw [HNO.out]; rfl, M.Mine.nil _ _ _ _ (by decide), by (repeat (first | with_reducible assumption | with_reducible exact Below.refl _ _ | with_reducible refine Below.drew ?_ | with_reducible refine belowDrewN ?_ _ | ((with_reducible refine Below.setCell ?_ ?_ _); rotate_left; focus (first | omega | (simp; done) | (simp; omega))) | ((with_reducible refine Below.alloc ?_ ?_ _); rotate_left; focus (first | omega | (simp; done) | (simp; omega))) | ((with_reducible refine Below.trans ?_ (Below.mono hb1 ?_)); rotate_left; focus (first | omega | (simp; done) | (simp; omega))) | ((with_reducible refine Below.trans ?_ (Below.mono hb2 ?_)); rotate_left; focus (first | omega | (simp; done) | (simp; omega)))))⟩
    | true =>
      have hno : candG (areB ds && isIdB k n s x es) s x ds = cands s x ds := by rw [hA, hid]; rfl
      have hbz : Below w.heap.size w w2 := by (repeat (first | with_reducible assumption | with_reducible exact Below.refl _ _ | with_reducible refine Below.drew ?_ | with_reducible refine belowDrewN ?_ _ | ((with_reducible refine Below.setCell ?_ ?_ _); rotate_left; focus (first | omega | (simp; done) | (simp; omega))) | ((with_reducible refine Below.alloc ?_ ?_ _); rotate_left; focus (first | omega | (simp; done) | (simp; omega))) | ((with_reducible refine Below.trans ?_ (Below.mono hb1 ?_)); rotate_left; focus (first | omega | (simp; done) | (simp; omega))) | ((with_reducible refine Below.trans ?_ (Below.mono hb2 ?_)); rotate_left; focus (first | omega | (simp; done) | (simp; omega)))))
      obtain ⟨q0, q1, q2, q3, q4, f0, f1, f2, f3, f4⟩ := hq2
      have HA := Lib.hid hA; clear hA; have HID := Lib.hid hid; clear hid; have HNO := Lib.hid hno; clear hno
      go_wp2_with fail
      refine (l3Candidates_calls ds a cap ms k n s x xa xc ia ims.length ic _ hB HI.out (HIN.out.below (by (repeat (first | with_reducible assumption | with_reducible exact Below.refl _ _ | with_reducible refine Below.drew ?_ | with_reducible refine belowDrewN ?_ _ | ((with_reducible refine Below.setCell ?_ ?_ _); rotate_left; focus (first | omega | (simp; done) | (simp; omega))) | ((with_reducible refine Below.alloc ?_ ?_ _); rotate_left; focus (first | omega | (simp; done) | (simp; omega))) | ((with_reducible refine Below.trans ?_ (Below.mono hbz ?_)); rotate_left; focus (first | omega | (simp; done) | (simp; omega))))))) (HX.out.below (by (repeat (first | with_reducible assumption | with_reducible exact Below.refl _ _ | with_reducible refine Below.drew ?_ | with_reducible refine belowDrewN ?_ _ | ((with_reducible refine Below.setCell ?_ ?_ _); rotate_left; focus (first | omega | (simp; done) | (simp; omega))) | ((with_reducible refine Below.alloc ?_ ?_ _); rotate_left; focus (first | omega | (simp; done) | (simp; omega))) | ((with_reducible refine Below.trans ?_ (Below.mono hbz ?_)); rotate_left; focus (first | omega | (simp; done) | (simp; omega)))))))).mono ?_
      rintro e w3 ⟨a3, cap3, ms3, rfl, hi3, hin3, hb3⟩
      have HI3 := Lib.hid hi3; clear hi3; have HIN3 := Lib.hid hin3; clear hin3
      go_wp2_with fail
      refine (l3Copy_calls (cands s x ds) a3 cap3 ms3 _ HCB2.out HI3.out (HIN3.out.below (by (repeat (first | with_reducible assumption | with_reducible exact Below.refl _ _ | with_reducible refine Below.drew ?_ | with_reducible refine belowDrewN ?_ _ | ((with_reducible refine Below.setCell ?_ ?_ _); rotate_left; focus (first | omega | (simp; done) | (simp; omega))) | ((with_reducible refine Below.alloc ?_ ?_ _); rotate_left; focus (first | omega | (simp; done) | (simp; omega)))))))).mono ?_
      rintro e w4 ⟨a4, cap4, ms4, rfl, hi4, hm4, hb4⟩
      have hz3 := hb3.size
      have HI4 := Lib.hid hi4; clear hi4; have HM4 := Lib.hid hm4; clear hm4
      go_wp2_with fail
      go_ret
      exact ⟨a4, cap4, ms4, rfl, by rw [HNO.out]; exact HI4.out, by (exact M.Mine.mono (M.Mine.keep HM4.out (fun b hb1 hb2 => by (try simp at hb1); simp (disch := (first | omega | (simp; omega))) only [heapSet, heapNew, heapDrew, heapDrewN])) (by first | omega | (simp; done) | (simp; omega))), by (repeat (first | with_reducible assumption | with_reducible exact Below.refl _ _ | with_reducible refine Below.drew ?_ | with_reducible refine belowDrewN ?_ _ | ((with_reducible refine Below.setCell ?_ ?_ _); rotate_left; focus (first | omega | (simp; done) | (simp; omega))) | ((with_reducible refine Below.alloc ?_ ?_ _); rotate_left; focus (first | omega | (simp; done) | (simp; omega))) | ((with_reducible refine Below.trans ?_ (Below.mono hbz ?_)); rotate_left; focus (first | omega | (simp; done) | (simp; omega))) | ((with_reducible refine Below.trans ?_ (Below.mono hb3 ?_)); rotate_left; focus (first | omega | (simp; done) | (simp; omega))) | ((with_reducible refine Below.trans ?_ (Below.mono hb4 ?_)); rotate_left; focus (first | omega | (simp; done) | (simp; omega)))))⟩
end Go.Proofs.Ytghbnehocggnnaa

/-
  Walks: the reference's l3Resolve; Resolve. No condition.
-/
set_option linter.unusedVariables false
set_option linter.unusedSimpArgs false
set_option maxRecDepth 100000
namespace Go.Proofs.Ytghbnehocggnnaa
open Go.RowKit


theorem foldl_first (b : Bnd) (r : List Bnd) : bestOf (b :: r) = (b :: r).foldl better (some b) := by
  simp [bestOf, better]
theorem foldl_some : ∀ (l : List Bnd) (c : Bnd), ∃ d, l.foldl better (some c) = some d := foldl_better_some
theorem foldl_mem2 {l : List Bnd} {c d : Bnd} (h : l.foldl better (some c) = some d) : d = c ∨ d ∈ l := by
  rcases foldl_better_mem l (some c) d h with h1 | h1
  · exact .inl (by simpa using h1.symm)
  · exact .inr h1
theorem fold_take {L : List Bnd} {j : Nat} {d : Bnd} {z : Option Bnd} (h : L[j]? = some d) : (L.take (j + 1)).foldl better z = better ((L.take j).foldl better z) d := by rw [take_snoc h, List.foldl_append]; rfl
theorem Bnd.wt_mem : ∀ {ds : List Bnd} {d : Bnd}, d ∈ ds → d.wt ≤ Bnd.wtX ds
  | [], d, h => by cases h
  | x :: r, d, h => by
    rcases List.mem_cons.1 h with rfl | h
    · simp only [Bnd.wtX]; omega
    · have := Bnd.wt_mem h; simp only [Bnd.wtX]; omega
theorem BBox.set4 {b : Nat} {k n : Int} {s : ByteArray} {x : Value} {w : World} (h : BBox b s x k n w) (s' : ByteArray) (x' : Value) (k' n' : Int) :
    BBox b s' x' k' n' ((((w.setCell ⟨b, 0, none⟩ (.string s')).setCell ⟨b, 1, none⟩ x').setCell ⟨b, 2, none⟩ (.int .i64 k')).setCell ⟨b, 3, none⟩ (.int .i64 n')) := by
  have here : ∀ (W : World) (i : Nat) (u y : Value), W.cell? ⟨b, i, none⟩ = some y → (W.setCell ⟨b, i, none⟩ u).cell? ⟨b, i, none⟩ = some u := fun W i u y hy => by rw [cell?_setCell_eq, hy]; rfl
  have far : ∀ (W : World) (i j : Nat) (u y : Value), i ≠ j → W.cell? ⟨b, i, none⟩ = some y → (W.setCell ⟨b, j, none⟩ u).cell? ⟨b, i, none⟩ = some y := fun W i j u y hij hy => (cellSet_ne u hij).trans hy
  constructor
  · exact far _ _ _ _ _ (by decide) (far _ _ _ _ _ (by decide) (far _ _ _ _ _ (by decide) (here _ _ _ _ h.c0)))
  · exact far _ _ _ _ _ (by decide) (far _ _ _ _ _ (by decide) (here _ _ _ _ (far _ _ _ _ _ (by decide) h.c1)))
  · exact far _ _ _ _ _ (by decide) (here _ _ _ _ (far _ _ _ _ _ (by decide) (far _ _ _ _ _ (by decide) h.c2)))
  · exact here _ _ _ _ (far _ _ _ _ _ (by decide) (far _ _ _ _ _ (by decide) (far _ _ _ _ _ (by decide) h.c3)))
  all_goals simp only [frozenSet]
  · exact h.f0
  · exact h.f1
  · exact h.f2
  · exact h.f3
theorem set4_below {B b : Nat} {w : World} {v0 v1 v2 v3 : Value} {i0 i1 i2 i3 : Nat} (h : B ≤ b) : Below B w ((((w.setCell ⟨b, i0, none⟩ v0).setCell ⟨b, i1, none⟩ v1).setCell ⟨b, i2, none⟩ v2).setCell ⟨b, i3, none⟩ v3) :=
  ((((Below.refl B w).setCell (p := ⟨b, i0, none⟩) h v0).setCell (p := ⟨b, i1, none⟩) h v1).setCell (p := ⟨b, i2, none⟩) h v2).setCell (p := ⟨b, i3, none⟩) h v3
set_option maxHeartbeats 4000000 in
theorem l3Resolve_calls (ds : List Bnd) (a : Option Addr) (cap : Nat) (ms : List M) (k n : Int) (s : ByteArray) (x : List Int) (xa : Option Addr) (xc : Nat) (ia : Option Addr) (il ic : Nat) (w : World)
    (hB : ds.length + Bnd.wtX ds ≤ 2000000) (hi : Bnd.IsL ds ms) (hin : (M.sl a cap 4 33 ms).In w) (hx : (M.sl xa xc 1 3 (intM x)).In w) :
    Calls Try.prog 50 #[.slice a ms.length cap, .agg #[.int .i64 k, .int .i64 n, .string s, .slice xa x.length xc, .slice ia il ic]] w (RetRes (resB s x ds) w) := by
  have hl := hi.length
  have hcap := hin.len
  have hxl := Ints.len hx
  have hcw : Bnd.wtX (cands s x ds) ≤ 2000000 := by have h2 : Bnd.wtX (cands s x ds) ≤ Bnd.wtX ds := Bnd.wtX_filter _ _; omega
  have HI := Lib.hid hi; clear hi; have HIN := Lib.hid hin; clear hin; have HX := Lib.hid hx; clear hx; have HL := Lib.hid hl; clear hl
  go_enter Try.func50, Try.ntmps50
  go_wp2_with fail
  refine (l3Candidates_calls ds a cap ms k n s x xa xc ia il ic _ (by omega) HI.out (HIN.out.below (by (repeat (first | with_reducible assumption | with_reducible exact Below.refl _ _ | with_reducible refine Below.drew ?_ | with_reducible refine belowDrewN ?_ _ | ((with_reducible refine Below.setCell ?_ ?_ _); rotate_left; focus (first | omega | (simp; done) | (simp; omega))) | ((with_reducible refine Below.alloc ?_ ?_ _); rotate_left; focus (first | omega | (simp; done) | (simp; omega))))))) (HX.out.below (by (repeat (first | with_reducible assumption | with_reducible exact Below.refl _ _ | with_reducible refine Below.drew ?_ | with_reducible refine belowDrewN ?_ _ | ((with_reducible refine Below.setCell ?_ ?_ _); rotate_left; focus (first | omega | (simp; done) | (simp; omega))) | ((with_reducible refine Below.alloc ?_ ?_ _); rotate_left; focus (first | omega | (simp; done) | (simp; omega)))))))).mono ?_
  rintro e w1 ⟨a1, cap1, ms1, rfl, hi1, hin1, hb1⟩
  have hz1 := hb1.size
  simp only [World.size_alloc] at hz1
  have hr1 : BBox (w.heap.size + 1) ⟨#[]⟩ (.slice none 0 0) 0 0 w1 := by
    have h := (BBox.new ⟨#[]⟩ (.slice none 0 0) 0 0 (w.alloc (.cells #[.int .i64 k, .int .i64 n, .string s, .slice xa x.length xc, .slice ia il ic] 27))).below hb1 (by simp); simpa using h
  have hbz : Below w.heap.size w w1 := by (repeat (first | with_reducible assumption | with_reducible exact Below.refl _ _ | with_reducible refine Below.drew ?_ | with_reducible refine belowDrewN ?_ _ | ((with_reducible refine Below.setCell ?_ ?_ _); rotate_left; focus (first | omega | (simp; done) | (simp; omega))) | ((with_reducible refine Below.alloc ?_ ?_ _); rotate_left; focus (first | omega | (simp; done) | (simp; omega))) | ((with_reducible refine Below.trans ?_ (Below.mono hb1 ?_)); rotate_left; focus (first | omega | (simp; done) | (simp; omega)))))
  have hl1 := hi1.length
  have hcap1 := hin1.len
  generalize hC : cands s x ds = C at *
  cases C with
  | nil =>
    have hm0 : ms1 = [] := by simpa [Bnd.IsL] using hi1
    subst hm0
    have hres : resB s x ds = (.mk ⟨#[]⟩ [] 0 0, 0) := resB_none (by rw [hC]; rfl)
    obtain ⟨r0, r1, r2, r3, g0, g1, g2, g3⟩ := hr1
    have HC := Lib.hid hC; clear hC; have HRES := Lib.hid hres; clear hres; have HI1 := Lib.hid hi1; clear hi1; have HIN1 := Lib.hid hin1; clear hin1; have HL1 := Lib.hid hl1; clear hl1; have HB1 := Lib.hid hb1; clear hb1
    simp only [List.length_nil]
    go_wp2_with fail
    refine bodyPost_ret (v := .tuple #[.agg #[.string ⟨#[]⟩, .slice none 0 0, .int .i64 0, .int .i64 0], .int .i64 0]) (by simp [results, Try.results50, go_sem, r0, r1, r2, r3]) rfl ?_
    rw [HRES.out]
    exact ⟨none, 0, rfl, M.Mine.nil _ _ _ _ (by decide), by (repeat (first | with_reducible assumption | with_reducible exact Below.refl _ _ | with_reducible refine Below.drew ?_ | with_reducible refine belowDrewN ?_ _ | ((with_reducible refine Below.setCell ?_ ?_ _); rotate_left; focus (first | omega | (simp; done) | (simp; omega))) | ((with_reducible refine Below.alloc ?_ ?_ _); rotate_left; focus (first | omega | (simp; done) | (simp; omega))) | ((with_reducible refine Below.trans ?_ (Below.mono hbz ?_)); rotate_left; focus (first | omega | (simp; done) | (simp; omega)))))⟩
  | cons c0 C =>
    have hpos : 0 < ms1.length := by rw [hl1]; simp
    have hne : ((ms1.length : Int) == 0) = false := by simp; intro h; rw [h] at hpos; simp at hpos
    obtain ⟨b, off, s0, x0, k0, n0, xa0, xc0, rfl, hd0, hx0, c0_, c1_, c2_, c3_⟩ := Bnd.elem hin1 hi1 0 hpos
    have hbw := World.block_lt_of_cell? w1 _ c0_
    simp only [Nat.zero_mul, Nat.add_zero] at c0_ c1_ c2_ c3_
    simp at hd0
    subst hd0
    have hbo : bestOf (cands s x ds) = (Bnd.mk s0 x0 k0 n0 :: C).foldl better (some (.mk s0 x0 k0 n0)) := by rw [hC]; exact foldl_first _ _
    have hp1 : w.heap.size + 1 < w1.heap.size := hr1.lt
    have hi0' : (0 : Int) < (ms1.length : Int) := by omega
    have hlz : ms1.length ≤ 2000000 := by
      have h2 := cands_length s x ds; rw [hC] at h2; rw [hl1]; omega
    have hwL : ∀ d ∈ Bnd.mk s0 x0 k0 n0 :: C, d.wt ≤ 2000000 := fun d hd => by have := Bnd.wt_mem hd; omega
    have hc0m : Bnd.mk s0 x0 k0 n0 ∈ Bnd.mk s0 x0 k0 n0 :: C := List.mem_cons_self ..
    have hr1' := hr1.of (heapNew w1 (.cells #[.string s0, .slice xa0 x0.length xc0, .int .i64 k0, .int .i64 n0] 33) _ hp1)
    have hq1' := BBox.new s0 (.slice xa0 x0.length xc0) k0 n0 w1
    generalize hLe : (Bnd.mk s0 x0 k0 n0 :: C) = L at *
    have HC := Lib.hid hC; clear hC; have HI1 := Lib.hid hi1; clear hi1; have HIN1 := Lib.hid hin1; clear hin1; have HBO := Lib.hid hbo; clear hbo; have HR1 := Lib.hid hr1; clear hr1; have HL1 := Lib.hid hl1; clear hl1; have HX0 := Lib.hid hx0; clear hx0; have HB1 := Lib.hid hb1; clear hb1; have HWL := Lib.hid hwL; clear hwL; have HC0M := Lib.hid hc0m; clear hc0m; have HR1' := Lib.hid hr1'; clear hr1'; have HQ1' := Lib.hid hq1'; clear hq1'; have HLE := Lib.hid hLe; clear hLe
    go_wp2_with fail
    go_loopw [24] (fun t wr => ∃ (j : Nat) (sc : ByteArray) (xl : List Int) (kc nc : Int) (xac : Option Addr) (xcc : Nat), j ≤ ms1.length ∧ t = .int .i64 j ∧ (L.take j).foldl better (some (.mk s0 x0 k0 n0)) = some (.mk sc xl kc nc) ∧ BBox w1.heap.size sc (.slice xac xl.length xcc) kc nc wr ∧ (M.sl xac xcc 1 3 (intM xl)).In w1 ∧
        BBox (w.heap.size + 1) ⟨#[]⟩ (.slice none 0 0) 0 0 wr ∧ Below w1.heap.size w1 wr ∧ w1.heap.size + 1 ≤ wr.heap.size) (fun t _ => ms1.length - (intOf t).toNat)
    case atStart => exact ⟨0, s0, x0, k0, n0, xa0, xc0, Nat.zero_le _, rfl, by simp, HQ1'.out, HX0.out, HR1'.out, by (repeat (first | with_reducible assumption | with_reducible exact Below.refl _ _ | with_reducible refine Below.drew ?_ | with_reducible refine belowDrewN ?_ _ | ((with_reducible refine Below.setCell ?_ ?_ _); rotate_left; focus (first | omega | (simp; done) | (simp; omega))) | ((with_reducible refine Below.alloc ?_ ?_ _); rotate_left; focus (first | omega | (simp; done) | (simp; omega))))), by simp⟩
    case round =>
      obtain ⟨j, sc, xl, kc, nc, xac, xcc, hj, rfl, hfo, hq, hinc, hr, hb, hsz⟩ := hrel
      have p1 := hq.lt
      have p2 := hr.lt
      by_cases hlt : j < ms1.length
      · obtain ⟨b', off', s2, x2, k2, n2, xa2, xc2, hbo', hd, hx2, c0, c1, c2, c3⟩ := Bnd.elem HIN1.out HI1.out j hlt
        simp only [Option.some.injEq, Addr.mk.injEq, and_true] at hbo'
        obtain ⟨rfl, rfl⟩ := hbo'
        replace c0 := (hb.cell (p := ⟨b, off + j * 4, none⟩) hbw).trans c0
        replace c1 := (hb.cell (p := ⟨b, off + j * 4 + 1, none⟩) hbw).trans c1
        replace c2 := (hb.cell (p := ⟨b, off + j * 4 + 2, none⟩) hbw).trans c2
        replace c3 := (hb.cell (p := ⟨b, off + j * 4 + 3, none⟩) hbw).trans c3
        have hst := fold_take (z := some (.mk s0 x0 k0 n0)) hd
        rw [hfo] at hst
        have hbA : Below wr.heap.size wr (wr.alloc (.cells #[.string s2, .slice xa2 x2.length xc2, .int .i64 k2, .int .i64 n2] 33)) := by (repeat (first | with_reducible assumption | with_reducible exact Below.refl _ _ | with_reducible refine Below.drew ?_ | with_reducible refine belowDrewN ?_ _ | ((with_reducible refine Below.setCell ?_ ?_ _); rotate_left; focus (first | omega | (simp; done) | (simp; omega))) | ((with_reducible refine Below.alloc ?_ ?_ _); rotate_left; focus (first | omega | (simp; done) | (simp; omega)))))
        have hq1' := hq.below hbA p1
        have hr1' := hr.below hbA p2
        have hbB : Below w1.heap.size w1 (wr.alloc (.cells #[.string s2, .slice xa2 x2.length xc2, .int .i64 k2, .int .i64 n2] 33)) := by (repeat (first | with_reducible assumption | with_reducible exact Below.refl _ _ | with_reducible refine Below.drew ?_ | with_reducible refine belowDrewN ?_ _ | ((with_reducible refine Below.setCell ?_ ?_ _); rotate_left; focus (first | omega | (simp; done) | (simp; omega))) | ((with_reducible refine Below.alloc ?_ ?_ _); rotate_left; focus (first | omega | (simp; done) | (simp; omega))) | ((with_reducible refine Below.trans ?_ (Below.mono hb ?_)); rotate_left; focus (first | omega | (simp; done) | (simp; omega)))))
        have hq0 := hq
        obtain ⟨q0, q1, q2, q3, f0, f1, f2, f3⟩ := hq
        by_cases hlen : xl.length < x2.length
        · have hlen' : (xl.length : Int) < (x2.length : Int) := by omega
          have hst2 : (L.take (j + 1)).foldl better (some (.mk s0 x0 k0 n0)) = some (.mk s2 x2 k2 n2) := by rw [hst]; simp [better, hlen]
          have HD := Lib.hid hd; clear hd; have HX2 := Lib.hid hx2; clear hx2; have HFO := Lib.hid hfo; clear hfo; have HST := Lib.hid hst; clear hst; have HST2 := Lib.hid hst2; clear hst2; have HQ0 := Lib.hid hq0; clear hq0; have HQ1' := Lib.hid hq1'; clear hq1'; have HR := Lib.hid hr; clear hr; have HR1' := Lib.hid hr1'; clear hr1'; have HBA := Lib.hid hbA; clear hbA; have HBB := Lib.hid hbB; clear hbB; have HINC := Lib.hid hinc; clear hinc; have HLEN := Lib.hid hlen; clear hlen
          go_wp2_with fail
          go_roundw
          case rel => exact ⟨j + 1, s2, x2, k2, n2, xa2, xc2, by omega, by go_num, HST2.out, (HQ0.out.set4 _ _ _ _).of (heapNew _ _ _ (by simp; omega)), HX2.out, (HR.out.below (B := w1.heap.size) (set4_below (Nat.le_refl _)) hp1).of (heapNew _ _ _ (by simp; omega)), by (repeat (first | with_reducible assumption | with_reducible exact Below.refl _ _ | with_reducible refine Below.drew ?_ | with_reducible refine belowDrewN ?_ _ | ((with_reducible refine Below.setCell ?_ ?_ _); rotate_left; focus (first | omega | (simp; done) | (simp; omega))) | ((with_reducible refine Below.alloc ?_ ?_ _); rotate_left; focus (first | omega | (simp; done) | (simp; omega))) | ((with_reducible refine Below.trans ?_ (Below.mono hb ?_)); rotate_left; focus (first | omega | (simp; done) | (simp; omega))))), by simp; omega⟩
          case measure => simp [intOf]; omega
        · have hlen' : ¬ (xl.length : Int) < (x2.length : Int) := by omega
          have hst2 : (L.take (j + 1)).foldl better (some (.mk s0 x0 k0 n0)) = some (.mk sc xl kc nc) := by rw [hst]; simp [better, hlen]
          have HD := Lib.hid hd; clear hd; have HX2 := Lib.hid hx2; clear hx2; have HFO := Lib.hid hfo; clear hfo; have HST := Lib.hid hst; clear hst; have HST2 := Lib.hid hst2; clear hst2; have HQ0 := Lib.hid hq0; clear hq0; have HQ1' := Lib.hid hq1'; clear hq1'; have HR := Lib.hid hr; clear hr; have HR1' := Lib.hid hr1'; clear hr1'; have HBA := Lib.hid hbA; clear hbA; have HBB := Lib.hid hbB; clear hbB; have HINC := Lib.hid hinc; clear hinc; have HLEN := Lib.hid hlen; clear hlen
          go_wp2_with fail
          go_roundw
          case rel => exact ⟨j + 1, sc, xl, kc, nc, xac, xcc, by omega, by go_num, HST2.out, HQ1'.out, HINC.out, HR1'.out, HBB.out, by simp; omega⟩
          case measure => simp [intOf]; omega
      · have hj2 : j = ms1.length := by omega
        subst hj2
        rw [HL1.out, List.take_length, ← HBO.out] at hfo
        have hmem : Bnd.mk sc xl kc nc ∈ L := by
          have h := HBO.out; rw [hfo] at h
          rcases foldl_mem2 h.symm with h1 | h1
          · rw [h1]; exact HC0M.out
          · exact h1
        have hxB : sc.size + xl.length ≤ 3000000 := by have := HWL.out _ hmem; simp only [Bnd.wt] at this; omega
        have hq0 := hq
        have HFO := Lib.hid hfo; clear hfo; have HMEM := Lib.hid hmem; clear hmem; have HQ := Lib.hid hq; clear hq; have HR := Lib.hid hr; clear hr; have HINC := Lib.hid hinc; clear hinc; have HXB := Lib.hid hxB; clear hxB
        clear hlt hj
        generalize hW1 : wr = wq at *
        clear hW1
        go_wp2_with fail
        go_loopw [39] (fun t wr => ∃ (j : Nat), j ≤ ms1.length ∧ t = .int .i64 j ∧ (∀ c ∈ L.take j, subB c.x xl = true) ∧ BBox w1.heap.size sc (.slice xac xl.length xcc) kc nc wr ∧ BBox (w.heap.size + 1) ⟨#[]⟩ (.slice none 0 0) 0 0 wr ∧ Below w1.heap.size w1 wr ∧ w1.heap.size + 1 ≤ wr.heap.size) (fun t _ => ms1.length - (intOf t).toNat)
        case atStart => exact ⟨0, Nat.zero_le _, rfl, by simp, HQ.out, HR.out, hb, hsz⟩
        case round =>
          obtain ⟨j, hj, rfl, hall, hq, hr, hb, hsz⟩ := hrel
          have p1 := hq.lt
          have p2 := hr.lt
          have hq0 := hq
          obtain ⟨q0, q1, q2, q3, f0, f1, f2, f3⟩ := hq
          by_cases hlt : j < ms1.length
          · obtain ⟨b', off', s2, x2, k2, n2, xa2, xc2, hbo', hd, hx2, c0, c1, c2, c3⟩ := Bnd.elem HIN1.out HI1.out j hlt
            simp only [Option.some.injEq, Addr.mk.injEq, and_true] at hbo'
            obtain ⟨rfl, rfl⟩ := hbo'
            replace c0 := (hb.cell (p := ⟨b, off + j * 4, none⟩) hbw).trans c0
            replace c1 := (hb.cell (p := ⟨b, off + j * 4 + 1, none⟩) hbw).trans c1
            replace c2 := (hb.cell (p := ⟨b, off + j * 4 + 2, none⟩) hbw).trans c2
            replace c3 := (hb.cell (p := ⟨b, off + j * 4 + 3, none⟩) hbw).trans c3
            have hbA : Below wr.heap.size wr (wr.alloc (.cells #[.string s2, .slice xa2 x2.length xc2, .int .i64 k2, .int .i64 n2] 33)) := by (repeat (first | with_reducible assumption | with_reducible exact Below.refl _ _ | with_reducible refine Below.drew ?_ | with_reducible refine belowDrewN ?_ _ | ((with_reducible refine Below.setCell ?_ ?_ _); rotate_left; focus (first | omega | (simp; done) | (simp; omega))) | ((with_reducible refine Below.alloc ?_ ?_ _); rotate_left; focus (first | omega | (simp; done) | (simp; omega)))))
            have hq1' := hq0.below hbA p1
            have hr1' := hr.below hbA p2
            have hbB : Below w1.heap.size w1 (wr.alloc (.cells #[.string s2, .slice xa2 x2.length xc2, .int .i64 k2, .int .i64 n2] 33)) := by (repeat (first | with_reducible assumption | with_reducible exact Below.refl _ _ | with_reducible refine Below.drew ?_ | with_reducible refine belowDrewN ?_ _ | ((with_reducible refine Below.setCell ?_ ?_ _); rotate_left; focus (first | omega | (simp; done) | (simp; omega))) | ((with_reducible refine Below.alloc ?_ ?_ _); rotate_left; focus (first | omega | (simp; done) | (simp; omega))) | ((with_reducible refine Below.trans ?_ (Below.mono hb ?_)); rotate_left; focus (first | omega | (simp; done) | (simp; omega)))))
            cases hsub : subB x2 xl with
            | true =>
              have hnext : ∀ c ∈ L.take (j + 1), subB c.x xl = true := by
                rw [take_snoc hd]; intro c hc
                rcases List.mem_append.1 hc with hc | hc
                · exact hall c hc
                · simp at hc; subst hc; exact hsub
              have HD := Lib.hid hd; clear hd; have HX2 := Lib.hid hx2; clear hx2; have HNEXT := Lib.hid hnext; clear hnext; have HALL := Lib.hid hall; clear hall; have HQ0 := Lib.hid hq0; clear hq0; have HQ1' := Lib.hid hq1'; clear hq1'; have HR := Lib.hid hr; clear hr; have HR1' := Lib.hid hr1'; clear hr1'; have HBA := Lib.hid hbA; clear hbA; have HBB := Lib.hid hbB; clear hbB
              go_wp2_with fail
              refine (sWithin_eq xa2 xc2 x2 xac xcc xl _ (HX2.out.below (by (repeat (first | with_reducible assumption | with_reducible exact Below.refl _ _ | with_reducible refine Below.drew ?_ | with_reducible refine belowDrewN ?_ _ | ((with_reducible refine Below.setCell ?_ ?_ _); rotate_left; focus (first | omega | (simp; done) | (simp; omega))) | ((with_reducible refine Below.alloc ?_ ?_ _); rotate_left; focus (first | omega | (simp; done) | (simp; omega))) | ((with_reducible refine Below.trans ?_ (Below.mono hb ?_)); rotate_left; focus (first | omega | (simp; done) | (simp; omega))))))) (HINC.out.below (by (repeat (first | with_reducible assumption | with_reducible exact Below.refl _ _ | with_reducible refine Below.drew ?_ | with_reducible refine belowDrewN ?_ _ | ((with_reducible refine Below.setCell ?_ ?_ _); rotate_left; focus (first | omega | (simp; done) | (simp; omega))) | ((with_reducible refine Below.alloc ?_ ?_ _); rotate_left; focus (first | omega | (simp; done) | (simp; omega))) | ((with_reducible refine Below.trans ?_ (Below.mono hb ?_)); rotate_left; focus (first | omega | (simp; done) | (simp; omega)))))))).mono ?_
              rintro e w3 ⟨rfl, rfl⟩
              go_wp2_with fail
              go_roundw
              case rel => exact ⟨j + 1, by omega, by go_num, HNEXT.out, HQ1'.out, HR1'.out, HBB.out, by simp; omega⟩
              case measure => simp [intOf]; omega
            | false =>
              have hres : resB s x ds = (.mk ⟨#[]⟩ [] 0 0, 2) := resB_amb HFO.out (c := .mk s2 x2 k2 n2) (by rw [HC.out]; exact List.mem_of_getElem? hd) hsub
              obtain ⟨r0, r1, r2, r3, g0, g1, g2, g3⟩ := hr
              have HD := Lib.hid hd; clear hd; have HX2 := Lib.hid hx2; clear hx2; have HALL := Lib.hid hall; clear hall; have HQ0 := Lib.hid hq0; clear hq0; have HQ1' := Lib.hid hq1'; clear hq1'; have HR1' := Lib.hid hr1'; clear hr1'; have HBA := Lib.hid hbA; clear hbA; have HBB := Lib.hid hbB; clear hbB; have HRES := Lib.hid hres; clear hres
              go_wp2_with fail
              refine (sWithin_eq xa2 xc2 x2 xac xcc xl _ (HX2.out.below (by (repeat (first | with_reducible assumption | with_reducible exact Below.refl _ _ | with_reducible refine Below.drew ?_ | with_reducible refine belowDrewN ?_ _ | ((with_reducible refine Below.setCell ?_ ?_ _); rotate_left; focus (first | omega | (simp; done) | (simp; omega))) | ((with_reducible refine Below.alloc ?_ ?_ _); rotate_left; focus (first | omega | (simp; done) | (simp; omega))) | ((with_reducible refine Below.trans ?_ (Below.mono hb ?_)); rotate_left; focus (first | omega | (simp; done) | (simp; omega))))))) (HINC.out.below (by (repeat (first | with_reducible assumption | with_reducible exact Below.refl _ _ | with_reducible refine Below.drew ?_ | with_reducible refine belowDrewN ?_ _ | ((with_reducible refine Below.setCell ?_ ?_ _); rotate_left; focus (first | omega | (simp; done) | (simp; omega))) | ((with_reducible refine Below.alloc ?_ ?_ _); rotate_left; focus (first | omega | (simp; done) | (simp; omega))) | ((with_reducible refine Below.trans ?_ (Below.mono hb ?_)); rotate_left; focus (first | omega | (simp; done) | (simp; omega)))))))).mono ?_
              rintro e w3 ⟨rfl, rfl⟩
              go_wp2_with fail
              refine bodyPost_ret (v := .tuple #[.agg #[.string ⟨#[]⟩, .slice none 0 0, .int .i64 0, .int .i64 0], .int .i64 2]) (by simp [results, Try.results50, go_sem, r0, r1, r2, r3, p2]) rfl ?_
              rw [HRES.out]
              exact ⟨none, 0, rfl, M.Mine.nil _ _ _ _ (by decide), by (repeat (first | with_reducible assumption | with_reducible exact Below.refl _ _ | with_reducible refine Below.drew ?_ | with_reducible refine belowDrewN ?_ _ | ((with_reducible refine Below.setCell ?_ ?_ _); rotate_left; focus (first | omega | (simp; done) | (simp; omega))) | ((with_reducible refine Below.alloc ?_ ?_ _); rotate_left; focus (first | omega | (simp; done) | (simp; omega))) | ((with_reducible refine Below.trans ?_ (Below.mono hbz ?_)); rotate_left; focus (first | omega | (simp; done) | (simp; omega))) | ((with_reducible refine Below.trans ?_ (Below.mono hb ?_)); rotate_left; focus (first | omega | (simp; done) | (simp; omega)))))⟩
          · have hj2 : j = ms1.length := by omega
            subst hj2
            rw [HL1.out, List.take_length] at hall
            have hres : resB s x ds = (.mk sc xl kc nc, 1) := resB_found HFO.out (by rw [HC.out]; exact hall)
            have HALL := Lib.hid hall; clear hall; have HRES := Lib.hid hres; clear hres; have HQ0 := Lib.hid hq0; clear hq0; have HR := Lib.hid hr; clear hr
            go_wp2_with fail
            refine (l3Copy_one sc xl kc nc xac xcc _ _ HXB.out (one_in (HINC.out.below (by (repeat (first | with_reducible assumption | with_reducible exact Below.refl _ _ | with_reducible refine Below.drew ?_ | with_reducible refine belowDrewN ?_ _ | ((with_reducible refine Below.setCell ?_ ?_ _); rotate_left; focus (first | omega | (simp; done) | (simp; omega))) | ((with_reducible refine Below.alloc ?_ ?_ _); rotate_left; focus (first | omega | (simp; done) | (simp; omega))) | ((with_reducible refine Below.trans ?_ (Below.mono hb ?_)); rotate_left; focus (first | omega | (simp; done) | (simp; omega))))))))).mono ?_
            rintro e w5 ⟨a5, cap5, ms5, rfl, hi5, hm5, hb5⟩
            have hz5 := hb5.size
            simp only [World.size_alloc] at hz5
            obtain ⟨m, r, rfl, ⟨xa5, xc5, rfl⟩, hrr⟩ := hi5
            simp only [Bnd.IsL] at hrr
            subst hrr
            obtain ⟨g5, rfl, _, hg5⟩ := hm5.addr (by simp)
            obtain ⟨bb, oo, hg0, hel⟩ := hm5.in_.elem (by simp)
            obtain ⟨rfl, rfl⟩ : g5 = bb ∧ oo = 0 := by simp only [Option.some.injEq, Addr.mk.injEq, and_true] at hg0; exact ⟨hg0.1, hg0.2.symm⟩
            have t0 := hel 0 (by simp) 0 (.string sc) (by simp [bndM_cells])
            have t1 := hel 0 (by simp) 1 (.slice xa5 xl.length xc5) (by simp [bndM_cells])
            have t2 := hel 0 (by simp) 2 (.int .i64 kc) (by simp [bndM_cells])
            have t3 := hel 0 (by simp) 3 (.int .i64 nc) (by simp [bndM_cells])
            simp only [Nat.zero_mul, Nat.zero_add, Nat.add_zero] at t0 t1 t2 t3
            have hsc := hm5.piece (k := 0) (ys := [.c (.string sc), .sl xa5 xc5 1 3 (intM xl), .c (.int .i64 kc), .c (.int .i64 nc)]) rfl (j := 1) rfl
            have hrr5 : BBox (w.heap.size + 1) ⟨#[]⟩ (.slice none 0 0) 0 0 w5 := HR.out.of ((hb5.block _ (by simp; omega)).trans (heapNew _ _ _ p2))
            obtain ⟨r0, r1, r2, r3, g0, g1, g2, g3⟩ := hrr5
            have hsc2 := hsc.mono (lo' := w.heap.size) (by simp; omega)
            have hbf : Below w.heap.size w w5 := by (repeat (first | with_reducible assumption | with_reducible exact Below.refl _ _ | with_reducible refine Below.drew ?_ | with_reducible refine belowDrewN ?_ _ | ((with_reducible refine Below.setCell ?_ ?_ _); rotate_left; focus (first | omega | (simp; done) | (simp; omega))) | ((with_reducible refine Below.alloc ?_ ?_ _); rotate_left; focus (first | omega | (simp; done) | (simp; omega))) | ((with_reducible refine Below.trans ?_ (Below.mono hbz ?_)); rotate_left; focus (first | omega | (simp; done) | (simp; omega))) | ((with_reducible refine Below.trans ?_ (Below.mono hb ?_)); rotate_left; focus (first | omega | (simp; done) | (simp; omega))) | ((with_reducible refine Below.trans ?_ (Below.mono hb5 ?_)); rotate_left; focus (first | omega | (simp; done) | (simp; omega)))))
            have HM5 := Lib.hid hm5; clear hm5; have HEL := Lib.hid hel; clear hel; have HSC := Lib.hid hsc; clear hsc; have HSC2 := Lib.hid hsc2; clear hsc2; have HB5 := Lib.hid hb5; clear hb5
            simp only [List.length_cons, List.length_nil, Nat.zero_add]
            go_wp2_with fail
            refine bodyPost_ret (v := .tuple #[.agg #[.string sc, .slice xa5 xl.length xc5, .int .i64 kc, .int .i64 nc], .int .i64 1]) (by simp [results, Try.results50, go_sem, r0, r1, r2, r3]) rfl ?_
            rw [HRES.out]
            exact ⟨xa5, xc5, rfl, by exact M.Mine.mono ⟨M.Own.frame _ HSC2.out.own fun b hb => by have h1 := HSC.out.lt b hb; (try simp only [World.size_alloc] at h1); simp (disch := (first | omega | (simp; omega))) only [heapSet], HSC2.out.dup⟩ (Nat.le_refl _), by (repeat (first | with_reducible assumption | with_reducible exact Below.refl _ _ | with_reducible refine Below.drew ?_ | with_reducible refine belowDrewN ?_ _ | ((with_reducible refine Below.setCell ?_ ?_ _); rotate_left; focus (first | omega | (simp; done) | (simp; omega))) | ((with_reducible refine Below.alloc ?_ ?_ _); rotate_left; focus (first | omega | (simp; done) | (simp; omega))) | ((with_reducible refine Below.trans ?_ (Below.mono hbf ?_)); rotate_left; focus (first | omega | (simp; done) | (simp; omega)))))⟩

theorem resG_no (s : ByteArray) (x : List Int) (ds : List Bnd) : resG false s x ds = (.mk ⟨#[]⟩ [] 0 0, 0) := rfl
theorem resG_yes (s : ByteArray) (x : List Int) (ds : List Bnd) : resG true s x ds = resB s x ds := rfl
theorem resB_x (s : ByteArray) (x : List Int) (ds : List Bnd) : (resB s x ds).1.x.length ≤ Bnd.wtX ds := by
  unfold resB
  split
  · simp
  · rename_i b hb
    split
    · have h1 := Bnd.wt_mem (cands_mem.1 (bestOf_mem hb)).1
      obtain ⟨s', x', k', n'⟩ := b
      simp only [Bnd.wt] at h1
      simp only [Bnd.x_mk]; omega
    · simp
theorem resG_x (ok : Bool) (s : ByteArray) (x : List Int) (ds : List Bnd) : (resG ok s x ds).1.x.length ≤ Bnd.wtX ds := by
  cases ok with
  | false => simp [resG_no]
  | true => exact resB_x s x ds
set_option maxHeartbeats 2000000 in
theorem iResolve_calls (ds : List Bnd) (a : Option Addr) (cap : Nat) (ms : List M) (k n : Int) (s : ByteArray) (x : List Int) (es : List Syn) (xa : Option Addr) (xc : Nat) (ia : Option Addr) (ic : Nat) (ims : List M) (w : World) (hwf : Bnd.wfL ds) (hs9 : ∀ d ∈ ds, d.s.size ≤ 1048576)
    (hB : ds.length + Bnd.wtX ds ≤ 2000000) (hi : Bnd.IsL ds ms) (hin : (M.sl a cap 4 33 ms).In w) (hwf2 : (Syn.mk k n s x es).wf) (hcB : Syn.countL es ≤ 1000000000) (hi2 : Syn.IsL 27 es ims) (hown : (SynOwn 27 xa xc x ia ic ims).In w) :
    Calls Try.prog 12 #[.slice a ms.length cap, .agg #[.int .i64 k, .int .i64 n, .string s, .slice xa x.length xc, .slice ia ims.length ic]] w (RetRes (resG (areB ds && isIdB k n s x es) s x ds) w) := by
  have hl := hi.length
  have hcap := hin.len
  have hx := SynIn_x hown
  have hxl := Ints.len hx
  have HI := Lib.hid hi; clear hi; have HIN := Lib.hid hin; clear hin; have HX := Lib.hid hx; clear hx; have HWF := Lib.hid hwf; clear hwf; have HS9 := Lib.hid hs9; clear hs9; have HL := Lib.hid hl; clear hl; have HI2 := Lib.hid hi2; clear hi2; have HOWN := Lib.hid hown; clear hown; have HWF2 := Lib.hid hwf2; clear hwf2
  go_enter Try.func12, Try.ntmps12
  go_wp2_with fail
  refine (iAreBindings_calls ds a cap ms _ HWF.out HI.out (HIN.out.below (by (repeat (first | with_reducible assumption | with_reducible exact Below.refl _ _ | with_reducible refine Below.drew ?_ | with_reducible refine belowDrewN ?_ _ | ((with_reducible refine Below.setCell ?_ ?_ _); rotate_left; focus (first | omega | (simp; done) | (simp; omega))) | ((with_reducible refine Below.alloc ?_ ?_ _); rotate_left; focus (first | omega | (simp; done) | (simp; omega))))))) HS9.out).mono ?_
  rintro e w1 ⟨rfl, hb1⟩
  have hq1 : SBox w.heap.size k n s (.slice xa x.length xc) (.slice ia ims.length ic) w1 := ((SBox.new k n s (.slice xa x.length xc) (.slice ia ims.length ic) w).of (heapNew _ _ _ (by simp))).below hb1 (by simp; omega)
  have hr1 : BBox (w.heap.size + 1) ⟨#[]⟩ (.slice none 0 0) 0 0 w1 := by
    have h := (BBox.new ⟨#[]⟩ (.slice none 0 0) 0 0 (w.alloc (.cells #[.int .i64 k, .int .i64 n, .string s, .slice xa x.length xc, .slice ia ims.length ic] 27))).below hb1 (by simp); simpa using h
  have hz1 := hb1.size
  simp only [World.size_alloc] at hz1
  have p0 := hq1.lt
  have p1 := hr1.lt
  cases hA : areB ds with
  | false =>
    have hno : resG (areB ds && isIdB k n s x es) s x ds = (.mk ⟨#[]⟩ [] 0 0, 0) := by rw [hA]; rfl
    obtain ⟨r0, r1, r2, r3, g0, g1, g2, g3⟩ := hr1
    have HA := Lib.hid hA; clear hA; have HNO := Lib.hid hno; clear hno; have HQ1 := Lib.hid hq1; clear hq1
    go_wp2_with fail
    refine bodyPost_ret (v := .tuple #[.agg #[.string ⟨#[]⟩, .slice none 0 0, .int .i64 0, .int .i64 0], .int .i64 0]) (by simp [results, Try.results12, go_sem, r0, r1, r2, r3]) rfl ?_
    rw [HNO.out]
    exact ⟨none, 0, rfl, M.Mine.nil _ _ _ _ (by decide), by (repeat (first | with_reducible assumption | with_reducible exact Below.refl _ _ | with_reducible refine Below.drew ?_ | with_reducible refine belowDrewN ?_ _ | ((with_reducible refine Below.setCell ?_ ?_ _); rotate_left; focus (first | omega | (simp; done) | (simp; omega))) | ((with_reducible refine Below.alloc ?_ ?_ _); rotate_left; focus (first | omega | (simp; done) | (simp; omega))) | ((with_reducible refine Below.trans ?_ (Below.mono hb1 ?_)); rotate_left; focus (first | omega | (simp; done) | (simp; omega)))))⟩
  | true =>
    obtain ⟨q0, q1, q2, q3, q4, f0, f1, f2, f3, f4⟩ := hq1
    have HR1 := Lib.hid hr1; clear hr1
    go_wp2_with fail
    refine (iIsIdentifier_calls k n s x es xa xc ia ic ims _ HWF2.out hcB HI2.out (HOWN.out.below (by (repeat (first | with_reducible assumption | with_reducible exact Below.refl _ _ | with_reducible refine Below.drew ?_ | with_reducible refine belowDrewN ?_ _ | ((with_reducible refine Below.setCell ?_ ?_ _); rotate_left; focus (first | omega | (simp; done) | (simp; omega))) | ((with_reducible refine Below.alloc ?_ ?_ _); rotate_left; focus (first | omega | (simp; done) | (simp; omega))) | ((with_reducible refine Below.trans ?_ (Below.mono hb1 ?_)); rotate_left; focus (first | omega | (simp; done) | (simp; omega)))))))).mono ?_
    rintro e w2 ⟨rfl, hb2⟩
    have hq2 : SBox w.heap.size k n s (.slice xa x.length xc) (.slice ia ims.length ic) w2 := SBox.below ⟨q0, q1, q2, q3, q4, f0, f1, f2, f3, f4⟩ hb2 p0
    have hr2 := HR1.out.below hb2 p1
    clear q0 q1 q2 q3 q4 f0 f1 f2 f3 f4
    have hz2 := hb2.size
    have p2 := hr2.lt
    cases hid : isIdB k n s x es with
    | false =>
      have hno : resG (areB ds && isIdB k n s x es) s x ds = (.mk ⟨#[]⟩ [] 0 0, 0) := by rw [hA, hid]; rfl
      obtain ⟨r0, r1, r2, r3, g0, g1, g2, g3⟩ := hr2
      have HA := Lib.hid hA; clear hA; have HID := Lib.hid hid; clear hid; have HNO := Lib.hid hno; clear hno; have HQ2 := Lib.hid hq2; clear hq2
      go_wp2_with fail
      refine bodyPost_ret (v := .tuple #[.agg #[.string ⟨#[]⟩, .slice none 0 0, .int .i64 0, .int .i64 0], .int .i64 0]) (by simp [results, Try.results12, go_sem, r0, r1, r2, r3]) rfl ?_
      rw [HNO.out]
      exact ⟨none, 0, rfl, M.Mine.nil _ _ _ _ (by decide), by (repeat (first | with_reducible assumption | with_reducible exact Below.refl _ _ | with_reducible refine Below.drew ?_ | with_reducible refine belowDrewN ?_ _ | ((with_reducible refine Below.setCell ?_ ?_ _); rotate_left; focus (first | omega | (simp; done) | (simp; omega))) | ((with_reducible refine Below.alloc ?_ ?_ _); rotate_left; focus (first | omega | (simp; done) | (simp; omega))) | ((with_reducible refine Below.trans ?_ (Below.mono hb1 ?_)); rotate_left; focus (first | omega | (simp; done) | (simp; omega))) | ((with_reducible refine Below.trans ?_ (Below.mono hb2 ?_)); rotate_left; focus (first | omega | (simp; done) | (simp; omega)))))⟩
    | true =>
      have hno : resG (areB ds && isIdB k n s x es) s x ds = resB s x ds := by rw [hA, hid]; rfl
      have hbz : Below w.heap.size w w2 := by (repeat (first | with_reducible assumption | with_reducible exact Below.refl _ _ | with_reducible refine Below.drew ?_ | with_reducible refine belowDrewN ?_ _ | ((with_reducible refine Below.setCell ?_ ?_ _); rotate_left; focus (first | omega | (simp; done) | (simp; omega))) | ((with_reducible refine Below.alloc ?_ ?_ _); rotate_left; focus (first | omega | (simp; done) | (simp; omega))) | ((with_reducible refine Below.trans ?_ (Below.mono hb1 ?_)); rotate_left; focus (first | omega | (simp; done) | (simp; omega))) | ((with_reducible refine Below.trans ?_ (Below.mono hb2 ?_)); rotate_left; focus (first | omega | (simp; done) | (simp; omega)))))
      obtain ⟨q0, q1, q2, q3, q4, f0, f1, f2, f3, f4⟩ := hq2
      have HA := Lib.hid hA; clear hA; have HID := Lib.hid hid; clear hid; have HNO := Lib.hid hno; clear hno; have HR2 := Lib.hid hr2; clear hr2
      go_wp2_with fail
      refine (lookUp_calls ds a cap ms k n s x xa xc ia ims.length ic _ (by omega) HI.out (HIN.out.below (by (repeat (first | with_reducible assumption | with_reducible exact Below.refl _ _ | with_reducible refine Below.drew ?_ | with_reducible refine belowDrewN ?_ _ | ((with_reducible refine Below.setCell ?_ ?_ _); rotate_left; focus (first | omega | (simp; done) | (simp; omega))) | ((with_reducible refine Below.alloc ?_ ?_ _); rotate_left; focus (first | omega | (simp; done) | (simp; omega))) | ((with_reducible refine Below.trans ?_ (Below.mono hbz ?_)); rotate_left; focus (first | omega | (simp; done) | (simp; omega))))))) (HX.out.below (by (repeat (first | with_reducible assumption | with_reducible exact Below.refl _ _ | with_reducible refine Below.drew ?_ | with_reducible refine belowDrewN ?_ _ | ((with_reducible refine Below.setCell ?_ ?_ _); rotate_left; focus (first | omega | (simp; done) | (simp; omega))) | ((with_reducible refine Below.alloc ?_ ?_ _); rotate_left; focus (first | omega | (simp; done) | (simp; omega))) | ((with_reducible refine Below.trans ?_ (Below.mono hbz ?_)); rotate_left; focus (first | omega | (simp; done) | (simp; omega)))))))).mono ?_
      rintro e w3 ⟨xa3, xc3, rfl, hm3, hb3⟩
      have hz3 := hb3.size
      obtain ⟨r0, r1, r2, r3, g0, g1, g2, g3⟩ := HR2.out.below hb3 p2
      generalize hres : resB s x ds = R at *
      have HM3 := Lib.hid hm3; clear hm3
      go_wp2_with fail
      refine bodyPost_ret (v := .tuple #[.agg #[.string R.1.s, .slice xa3 R.1.x.length xc3, .int .i64 R.1.k, .int .i64 R.1.n], .int .i64 R.2]) (by simp [results, Try.results12, go_sem, r0, r1, r2, r3]) rfl ?_
      rw [HNO.out]
      exact ⟨xa3, xc3, rfl, by (exact M.Mine.mono (M.Mine.keep HM3.out (fun b hb1 hb2 => by (try simp at hb1); simp (disch := (first | omega | (simp; omega))) only [heapSet, heapNew, heapDrew, heapDrewN])) (by first | omega | (simp; done) | (simp; omega))), by (repeat (first | with_reducible assumption | with_reducible exact Below.refl _ _ | with_reducible refine Below.drew ?_ | with_reducible refine belowDrewN ?_ _ | ((with_reducible refine Below.setCell ?_ ?_ _); rotate_left; focus (first | omega | (simp; done) | (simp; omega))) | ((with_reducible refine Below.alloc ?_ ?_ _); rotate_left; focus (first | omega | (simp; done) | (simp; omega))) | ((with_reducible refine Below.trans ?_ (Below.mono hbz ?_)); rotate_left; focus (first | omega | (simp; done) | (simp; omega))) | ((with_reducible refine Below.trans ?_ (Below.mono hb3 ?_)); rotate_left; focus (first | omega | (simp; done) | (simp; omega)))))⟩
set_option maxHeartbeats 2000000 in
theorem sResolve_calls (ds : List Bnd) (a : Option Addr) (cap : Nat) (ms : List M) (k n : Int) (s : ByteArray) (x : List Int) (es : List Syn) (xa : Option Addr) (xc : Nat) (ia : Option Addr) (ic : Nat) (ims : List M) (w : World) (hwf : Bnd.wfL ds) (hs9 : ∀ d ∈ ds, d.s.size ≤ 1048576)
    (hB : ds.length + Bnd.wtX ds ≤ 2000000) (hi : Bnd.IsL ds ms) (hin : (M.sl a cap 4 33 ms).In w) (hwf2 : (Syn.mk k n s x es).wf) (hcB : Syn.countL es ≤ 1000000000) (hi2 : Syn.IsL 27 es ims) (hown : (SynOwn 27 xa xc x ia ic ims).In w) :
    Calls Try.prog 15 #[.slice a ms.length cap, .agg #[.int .i64 k, .int .i64 n, .string s, .slice xa x.length xc, .slice ia ims.length ic]] w (RetRes (resG (areB ds && isIdB k n s x es) s x ds) w) := by
  have hl := hi.length
  have hcap := hin.len
  have hx := SynIn_x hown
  have hxl := Ints.len hx
  have HI := Lib.hid hi; clear hi; have HIN := Lib.hid hin; clear hin; have HX := Lib.hid hx; clear hx; have HWF := Lib.hid hwf; clear hwf; have HS9 := Lib.hid hs9; clear hs9; have HL := Lib.hid hl; clear hl; have HI2 := Lib.hid hi2; clear hi2; have HOWN := Lib.hid hown; clear hown; have HWF2 := Lib.hid hwf2; clear hwf2
  go_enter Try.func15, Try.ntmps15
  go_wp2_with fail
  refine (sAreBindings_calls ds a cap ms _ HWF.out HI.out (HIN.out.below (by (repeat (first | with_reducible assumption | with_reducible exact Below.refl _ _ | with_reducible refine Below.drew ?_ | with_reducible refine belowDrewN ?_ _ | ((with_reducible refine Below.setCell ?_ ?_ _); rotate_left; focus (first | omega | (simp; done) | (simp; omega))) | ((with_reducible refine Below.alloc ?_ ?_ _); rotate_left; focus (first | omega | (simp; done) | (simp; omega)))))))  ).mono ?_
  rintro e w1 ⟨rfl, hb1⟩
  have hq1 : SBox w.heap.size k n s (.slice xa x.length xc) (.slice ia ims.length ic) w1 := ((SBox.new k n s (.slice xa x.length xc) (.slice ia ims.length ic) w).of (heapNew _ _ _ (by simp))).below hb1 (by simp; omega)
  have hr1 : BBox (w.heap.size + 1) ⟨#[]⟩ (.slice none 0 0) 0 0 w1 := by
    have h := (BBox.new ⟨#[]⟩ (.slice none 0 0) 0 0 (w.alloc (.cells #[.int .i64 k, .int .i64 n, .string s, .slice xa x.length xc, .slice ia ims.length ic] 27))).below hb1 (by simp); simpa using h
  have hz1 := hb1.size
  simp only [World.size_alloc] at hz1
  have p0 := hq1.lt
  have p1 := hr1.lt
  cases hA : areB ds with
  | false =>
    have hno : resG (areB ds && isIdB k n s x es) s x ds = (.mk ⟨#[]⟩ [] 0 0, 0) := by rw [hA]; rfl
    obtain ⟨r0, r1, r2, r3, g0, g1, g2, g3⟩ := hr1
    have HA := Lib.hid hA; clear hA; have HNO := Lib.hid hno; clear hno; have HQ1 := Lib.hid hq1; clear hq1
    go_wp2_with fail
    refine bodyPost_ret (v := .tuple #[.agg #[.string ⟨#[]⟩, .slice none 0 0, .int .i64 0, .int .i64 0], .int .i64 0]) (by simp [results, Try.results15, go_sem, r0, r1, r2, r3]) rfl ?_
    rw [HNO.out]
    exact ⟨none, 0, rfl, M.Mine.nil _ _ _ _ (by decide), by (repeat (first | with_reducible assumption | with_reducible exact Below.refl _ _ | with_reducible refine Below.drew ?_ | with_reducible refine belowDrewN ?_ _ | ((with_reducible refine Below.setCell ?_ ?_ _); rotate_left; focus (first | omega | (simp; done) | (simp; omega))) | ((with_reducible refine Below.alloc ?_ ?_ _); rotate_left; focus (first | omega | (simp; done) | (simp; omega))) | ((with_reducible refine Below.trans ?_ (Below.mono hb1 ?_)); rotate_left; focus (first | omega | (simp; done) | (simp; omega)))))⟩
  | true =>
    obtain ⟨q0, q1, q2, q3, q4, f0, f1, f2, f3, f4⟩ := hq1
    have HR1 := Lib.hid hr1; clear hr1
    go_wp2_with fail
    refine (sIsIdentifier_calls k n s x es xa xc ia ic ims _ HWF2.out hcB HI2.out (HOWN.out.below (by (repeat (first | with_reducible assumption | with_reducible exact Below.refl _ _ | with_reducible refine Below.drew ?_ | with_reducible refine belowDrewN ?_ _ | ((with_reducible refine Below.setCell ?_ ?_ _); rotate_left; focus (first | omega | (simp; done) | (simp; omega))) | ((with_reducible refine Below.alloc ?_ ?_ _); rotate_left; focus (first | omega | (simp; done) | (simp; omega))) | ((with_reducible refine Below.trans ?_ (Below.mono hb1 ?_)); rotate_left; focus (first | omega | (simp; done) | (simp; omega)))))))).mono ?_
    rintro e w2 ⟨rfl, hb2⟩
    have hq2 : SBox w.heap.size k n s (.slice xa x.length xc) (.slice ia ims.length ic) w2 := SBox.below ⟨q0, q1, q2, q3, q4, f0, f1, f2, f3, f4⟩ hb2 p0
    have hr2 := HR1.out.below hb2 p1
    clear q0 q1 q2 q3 q4 f0 f1 f2 f3 f4
    have hz2 := hb2.size
    have p2 := hr2.lt
    cases hid : isIdB k n s x es with
    | false =>
      have hno : resG (areB ds && isIdB k n s x es) s x ds = (.mk ⟨#[]⟩ [] 0 0, 0) := by rw [hA, hid]; rfl
      obtain ⟨r0, r1, r2, r3, g0, g1, g2, g3⟩ := hr2
      have HA := Lib.hid hA; clear hA; have HID := Lib.hid hid; clear hid; have HNO := Lib.hid hno; clear hno; have HQ2 := Lib.hid hq2; clear hq2
      go_wp2_with fail
      refine bodyPost_ret (v := .tuple #[.agg #[.string ⟨#[]⟩, .slice none 0 0, .int .i64 0, .int .i64 0], .int .i64 0]) (by simp [results, Try.results15, go_sem, r0, r1, r2, r3]) rfl ?_
      rw [HNO.out]
      exact ⟨none, 0, rfl, M.Mine.nil _ _ _ _ (by decide), by (repeat (first | with_reducible assumption | with_reducible exact Below.refl _ _ | with_reducible refine Below.drew ?_ | with_reducible refine belowDrewN ?_ _ | ((with_reducible refine Below.setCell ?_ ?_ _); rotate_left; focus (first | omega | (simp; done) | (simp; omega))) | ((with_reducible refine Below.alloc ?_ ?_ _); rotate_left; focus (first | omega | (simp; done) | (simp; omega))) | ((with_reducible refine Below.trans ?_ (Below.mono hb1 ?_)); rotate_left; focus (first | omega | (simp; done) | (simp; omega))) | ((with_reducible refine Below.trans ?_ (Below.mono hb2 ?_)); rotate_left; focus (first | omega | (simp; done) | (simp; omega)))))⟩
    | true =>
      have hno : resG (areB ds && isIdB k n s x es) s x ds = resB s x ds := by rw [hA, hid]; rfl
      have hbz : Below w.heap.size w w2 := by (repeat (first | with_reducible assumption | with_reducible exact Below.refl _ _ | with_reducible refine Below.drew ?_ | with_reducible refine belowDrewN ?_ _ | ((with_reducible refine Below.setCell ?_ ?_ _); rotate_left; focus (first | omega | (simp; done) | (simp; omega))) | ((with_reducible refine Below.alloc ?_ ?_ _); rotate_left; focus (first | omega | (simp; done) | (simp; omega))) | ((with_reducible refine Below.trans ?_ (Below.mono hb1 ?_)); rotate_left; focus (first | omega | (simp; done) | (simp; omega))) | ((with_reducible refine Below.trans ?_ (Below.mono hb2 ?_)); rotate_left; focus (first | omega | (simp; done) | (simp; omega)))))
      obtain ⟨q0, q1, q2, q3, q4, f0, f1, f2, f3, f4⟩ := hq2
      have HA := Lib.hid hA; clear hA; have HID := Lib.hid hid; clear hid; have HNO := Lib.hid hno; clear hno; have HR2 := Lib.hid hr2; clear hr2
      go_wp2_with fail
      refine (l3Resolve_calls ds a cap ms k n s x xa xc ia ims.length ic _ (by omega) HI.out (HIN.out.below (by (repeat (first | with_reducible assumption | with_reducible exact Below.refl _ _ | with_reducible refine Below.drew ?_ | with_reducible refine belowDrewN ?_ _ | ((with_reducible refine Below.setCell ?_ ?_ _); rotate_left; focus (first | omega | (simp; done) | (simp; omega))) | ((with_reducible refine Below.alloc ?_ ?_ _); rotate_left; focus (first | omega | (simp; done) | (simp; omega))) | ((with_reducible refine Below.trans ?_ (Below.mono hbz ?_)); rotate_left; focus (first | omega | (simp; done) | (simp; omega))))))) (HX.out.below (by (repeat (first | with_reducible assumption | with_reducible exact Below.refl _ _ | with_reducible refine Below.drew ?_ | with_reducible refine belowDrewN ?_ _ | ((with_reducible refine Below.setCell ?_ ?_ _); rotate_left; focus (first | omega | (simp; done) | (simp; omega))) | ((with_reducible refine Below.alloc ?_ ?_ _); rotate_left; focus (first | omega | (simp; done) | (simp; omega))) | ((with_reducible refine Below.trans ?_ (Below.mono hbz ?_)); rotate_left; focus (first | omega | (simp; done) | (simp; omega)))))))).mono ?_
      rintro e w3 ⟨xa3, xc3, rfl, hm3, hb3⟩
      have hz3 := hb3.size
      obtain ⟨r0, r1, r2, r3, g0, g1, g2, g3⟩ := HR2.out.below hb3 p2
      generalize hres : resB s x ds = R at *
      have HM3 := Lib.hid hm3; clear hm3
      go_wp2_with fail
      refine bodyPost_ret (v := .tuple #[.agg #[.string R.1.s, .slice xa3 R.1.x.length xc3, .int .i64 R.1.k, .int .i64 R.1.n], .int .i64 R.2]) (by simp [results, Try.results15, go_sem, r0, r1, r2, r3]) rfl ?_
      rw [HNO.out]
      exact ⟨xa3, xc3, rfl, by (exact M.Mine.mono (M.Mine.keep HM3.out (fun b hb1 hb2 => by (try simp at hb1); simp (disch := (first | omega | (simp; omega))) only [heapSet, heapNew, heapDrew, heapDrewN])) (by first | omega | (simp; done) | (simp; omega))), by (repeat (first | with_reducible assumption | with_reducible exact Below.refl _ _ | with_reducible refine Below.drew ?_ | with_reducible refine belowDrewN ?_ _ | ((with_reducible refine Below.setCell ?_ ?_ _); rotate_left; focus (first | omega | (simp; done) | (simp; omega))) | ((with_reducible refine Below.alloc ?_ ?_ _); rotate_left; focus (first | omega | (simp; done) | (simp; omega))) | ((with_reducible refine Below.trans ?_ (Below.mono hbz ?_)); rotate_left; focus (first | omega | (simp; done) | (simp; omega))) | ((with_reducible refine Below.trans ?_ (Below.mono hb3 ?_)); rotate_left; focus (first | omega | (simp; done) | (simp; omega)))))⟩
end Go.Proofs.Ytghbnehocggnnaa

/-
  Walks: a binding drawn, an identifier drawn. No condition. (printed by wip/tools/mkmx5.py)
-/
set_option linter.unusedVariables false
set_option linter.unusedSimpArgs false
set_option maxRecDepth 100000
namespace Go.Proofs.Ytghbnehocggnnaa
open Go.RowKit

def Bnd.wf1 : Bnd → Prop
  | .mk s x k n => s.size ≤ 100 ∧ x.length ≤ 8 ∧ Small x ∧ I64 k ∧ I64 n
theorem Bnd.wf1.wf : ∀ {d : Bnd}, d.wf1 → d.wf
  | .mk _ _ _ _, h => ⟨Nat.le_trans h.1 (by decide), h.2.2.1.I64, h.2.2.2.1, h.2.2.2.2⟩
/-- a binding drawn -/
def DrawnBd (pb : Nat) (a : Option Addr) (cap : Nat) (l : List Int) (w : World) (e : Ending) (w' : World) : Prop :=
  ∃ (s : ByteArray) (x : List Int) (k n : Int) (xa : Option Addr) (xc : Nat), e = .returned (.agg #[.string s, .slice xa x.length xc, .int .i64 k, .int .i64 n]) ∧ (M.sl xa xc 1 3 (intM x)).Mine w' w.heap.size ∧ (Bnd.mk s x k n).wf1 ∧ Cur pb a cap l w' ∧ OnlyIn pb (pb + 1) w w'
theorem DrawnBd.boxed {pb : Nat} {a : Option Addr} {cap : Nat} {l : List Int} {w W : World} {k n : Int} {s : ByteArray} {x : List Int} {xa : Option Addr} {xc : Nat} {c : Nat}
    (hm : (M.sl xa xc 1 3 (intM x)).Mine W c) (hc : w.heap.size < c) (hw : (Bnd.mk s x k n).wf1) (hcur : Cur pb a cap l W) (ho : OnlyIn pb (pb + 1) w W) (hp : pb < w.heap.size) (hsz : w.heap.size < W.heap.size) :
    DrawnBd pb a cap l w (.returned (.agg #[.string s, .slice xa x.length xc, .int .i64 k, .int .i64 n])) (setCells W w.heap.size 0 [.string s, .slice xa x.length xc, .int .i64 k, .int .i64 n]) := by
  have ho2 := setCells_Only w.heap.size (bs := [w.heap.size]) (by simp) [.string s, .slice xa x.length xc, .int .i64 k, .int .i64 n] W 0 (Only.refl _ W)
  refine ⟨s, x, k, n, xa, xc, rfl, ?_, hw, ?_, ?_⟩
  · exact M.Mine.mono (hm.only ho2 fun b hb hn => by have := (hm.lt b hb).1; simp at hn; omega) (by omega)
  · exact hcur.belowB (B := w.heap.size) (ho2.below (by omega) (by simp)) hp
  · exact ho.thenOnly ho2 (fun y hy => by simp at hy; omega)
set_option maxHeartbeats 8000000 in
theorem l3Draw_calls (pb : Nat) (a : Option Addr) (cap : Nat) (l : List Int) (w : World) (hc : Cur pb a cap l w) :
    Calls Try.prog 86 #[.pointer (some ⟨pb, 0, none⟩)] w (DrawnBd pb a cap l w) := by
  have hpl := hc.lt
  have HC := Lib.hid hc; clear hc
  go_enter Try.func86, Try.ntmps86
  go_wp2_with fail
  refine (l01Pick_lit2 _ _ _ pb a cap l (w.alloc (.cells #[.string ⟨#[]⟩, .slice none 0 0, .int .i64 0, .int .i64 0] 33)) (by simp) (HC.out.below (by (repeat (first | with_reducible assumption | with_reducible exact Below.refl _ _ | with_reducible refine Below.drew ?_ | with_reducible refine belowDrewN ?_ _ | ((with_reducible refine Below.setCell ?_ ?_ _); rotate_left; focus (first | omega | (simp; done) | (simp; omega))) | ((with_reducible refine Below.alloc ?_ ?_ _); rotate_left; focus (first | omega | (simp; done) | (simp; omega))))))) ?size (by decide) (by decide) ?texts).mono ?_
  case size => rfl
  case texts => exact Texts.of (by rfl)
  rintro e w1 ⟨s, rfl, hs, hc1, ho1⟩
  have hz1 := ho1.size
  simp only [World.size_alloc] at hz1
  have hr1 : BBox w.heap.size ⟨#[]⟩ (.slice none 0 0) 0 0 w1 := (BBox.new ⟨#[]⟩ (.slice none 0 0) 0 0 w).only ho1 (.inr (by omega))
  have hoo1 : OnlyIn pb (pb + 1) w w1 := ((OnlyIn.refl _ _ _).new _).trans ho1
  clear ho1
  have HC1 := Lib.hid hc1; clear hc1; have HR1 := Lib.hid hr1; clear hr1; have HOO1 := Lib.hid hoo1; clear hoo1
  go_wp2_with fail
  refine (l2Set_calls pb a cap l _ HC1.out).mono ?_
  rintro e w2 ⟨L, la, lc, rfl, hL, hLs, hmL, hc2, ho2⟩
  have hz2 := ho2.size
  have hLl := Ints.len hmL.in_
  have HLS := Lib.hid hLs; clear hLs; have HML := Lib.hid hmL; clear hmL; have HC2 := Lib.hid hc2; clear hc2; have HO2 := Lib.hid ho2; clear ho2
  go_wp2_with fail
  refine (l01Below_calls 4 pb a cap l _ HC2.out (by decide) (by decide)).mono ?_
  rintro e w3 ⟨k0, rfl, hk0, hk1, hc3, ho3⟩
  have hz3 := ho3.size
  have HC3 := Lib.hid hc3; clear hc3; have HO3 := Lib.hid ho3; clear ho3
  go_wp2_with fail
  refine (l01Below_calls 9 pb a cap l _ HC3.out (by decide) (by decide)).mono ?_
  rintro e w4 ⟨n0, rfl, hn0, hn1, hc4, ho4⟩
  have hz4 := ho4.size
  have ho24 := (HO2.out.trans HO3.out).trans ho4
  have hm4 : (M.sl la lc 1 3 (intM L)).Mine w4 w1.heap.size := (HML.out.keep (fun b h1 h2 => HO3.out.block b h2 (.inr (by omega)))).keep (fun b h1 h2 => ho4.block b h2 (.inr (by omega)))
  have hr4 := HR1.out.only ho24 (.inr (by omega))
  have hoo4 := HOO1.out.trans ho24
  have hlt := hm4.lt_size
  obtain ⟨K, hK⟩ : ∃ K, K = 1 + k0 := ⟨_, rfl⟩
  have hKI : I64 K := by rw [hK]; unfold I64; omega
  have hNI : I64 n0 := by unfold I64; omega
  have HC4 := Lib.hid hc4; clear hc4; have HM4 := Lib.hid hm4; clear hm4; have HR4 := Lib.hid hr4; clear hr4; have HOO4 := Lib.hid hoo4; clear hoo4; have HLT := Lib.hid hlt; clear hlt; have HKI := Lib.hid hKI; clear hKI; have HNI := Lib.hid hNI; clear hNI
  clear ho4 ho24
  go_wp2_with fail
  rw [← hK]
  refine (l01Below_calls 14 pb a cap l _ (HC4.out.below (by (repeat (first | with_reducible assumption | with_reducible exact Below.refl _ _ | with_reducible refine Below.drew ?_ | with_reducible refine belowDrewN ?_ _ | ((with_reducible refine Below.setCell ?_ ?_ _); rotate_left; focus (first | omega | (simp; done) | (simp; omega))) | ((with_reducible refine Below.alloc ?_ ?_ _); rotate_left; focus (first | omega | (simp; done) | (simp; omega))))))) (by decide) (by decide)).mono ?_
  rintro e w5 ⟨x, rfl, hx0, hx1, hc5, ho5⟩
  have hz5 := ho5.size
  simp only [World.size_alloc] at hz5
  have ho45 : OnlyIn pb (pb + 1) w4 w5 := ((OnlyIn.refl _ _ _).new _).trans ho5
  have hq5 : BBox w4.heap.size s (.slice la L.length lc) K n0 w5 := (BBox.new s (.slice la L.length lc) K n0 w4).only ho5 (.inr (by omega))
  have hr5 := HR4.out.only ho45 (.inr (by omega))
  have hoo5 := HOO4.out.trans ho45
  have hm5 : (M.sl la lc 1 3 (intM L)).Mine w5 w1.heap.size := HM4.out.keep (fun b h1 h2 => ho45.block b h2 (.inr (by omega)))
  have hw5 : (Bnd.mk s L K n0).wf1 := ⟨hs, by omega, HLS.out, HKI.out, HNI.out⟩
  clear ho5 ho45 hK hk0 hk1 hn0 hn1
  have HC5 := Lib.hid hc5; clear hc5; have HQ5 := Lib.hid hq5; clear hq5; have HR5 := Lib.hid hr5; clear hr5; have HOO5 := Lib.hid hoo5; clear hoo5; have HM5 := Lib.hid hm5; clear hm5; have HW5 := Lib.hid hw5; clear hw5
  by_cases h4 : 4 ≤ x
  · have y0 : (x == 0) = false := by simp; omega
    have y1 : (x == 1) = false := by simp; omega
    have y2 : (x == 2) = false := by simp; omega
    have y3 : (x == 3) = false := by simp; omega
    obtain ⟨r0, r1, r2, r3, g0, g1, g2, g3⟩ := HR5.out
    obtain ⟨q0, q1, q2, q3, f0, f1, f2, f3⟩ := HQ5.out
    have HX0 := Lib.hid hx0; clear hx0; have HX1 := Lib.hid hx1; clear hx1; have H4 := Lib.hid h4; clear h4
    have hret := DrawnBd.boxed (w := w) (s := s) (k := K) (n := n0) (x := L) HM5.out (by omega) HW5.out HC5.out HOO5.out hpl (by first | omega | (simp; omega))
    simp only [setCells, Nat.zero_add, Nat.reduceAdd] at hret
    have HRET := Lib.hid hret; clear hret
    go_wp2_with fail
    refine bodyPost_ret (v := .agg #[.string s, .slice la L.length lc, .int .i64 K, .int .i64 n0]) (by simp (disch := (first | omega | (simp; done) | (simp; omega))) [results, Try.results86, go_sem, r0, r1, r2, r3]) rfl ?_
    exact HRET.out
  · have hx : x = 0 ∨ x = 1 ∨ x = 2 ∨ x = 3 := by omega
    clear hx0 hx1 h4
    rcases hx with rfl | rfl | rfl | rfl
    · go_wp2_with fail
      refine (l01Below_calls 7 pb a cap l _ HC5.out (by decide) (by decide)).mono ?_
      rintro e w6 ⟨y, rfl, hy0, hy1, hc6, ho6⟩
      have hYI : I64 (y - 1) := by unfold I64; omega
      have hYw : wrap64 (y - 1) = y - 1 := by unfold wrap64; omega
      have HY0 := Lib.hid hy0; clear hy0; have HY1 := Lib.hid hy1; clear hy1
      have hz6 := ho6.size
      have hr6 := HR5.out.only ho6 (.inr (by omega))
      have hq6 := HQ5.out.only ho6 (.inr (by omega))
      have hm7 : (M.sl la lc 1 3 (intM L)).Mine (w6.setCell ⟨w4.heap.size, 2, none⟩ (.int .i64 (y - 1))) w1.heap.size := (HM5.out.keep (fun b h1 h2 => ho6.block b h2 (.inr (by omega)))).keep2 (fun b hb => heapSet _ _ _ _ (by have := HLT.out b hb; simp only; omega))
      have hc7 : Cur pb a cap l (w6.setCell ⟨w4.heap.size, 2, none⟩ (.int .i64 (y - 1))) := hc6.belowB (B := w.heap.size) (Below.setCell (Below.refl _ _) (by simp; omega) _) hpl
      have hoo7 : OnlyIn pb (pb + 1) w (w6.setCell ⟨w4.heap.size, 2, none⟩ (.int .i64 (y - 1))) := (HOO5.out.trans ho6).thenBelow (Below.setCell (Below.refl _ _) (by simp; omega) _)
      have hw7 : (Bnd.mk s L (y - 1) n0).wf1 := ⟨HW5.out.1, HW5.out.2.1, HW5.out.2.2.1, hYI, HW5.out.2.2.2.2⟩
      obtain ⟨r0, r1, r2, r3, g0, g1, g2, g3⟩ := hr6
      obtain ⟨q0, q1, q2, q3, f0, f1, f2, f3⟩ := hq6
      have hret := DrawnBd.boxed (w := w) (s := s) (k := (y - 1)) (n := n0) (x := L) hm7 (by omega) hw7 hc7 hoo7 hpl (by first | omega | (simp; omega))
      simp only [setCells, Nat.zero_add, Nat.reduceAdd] at hret
      clear hm7 hc7 hoo7 hw7 hc6 ho6
      have HRET := Lib.hid hret; clear hret
      go_wp2_with fail
      refine bodyPost_ret (v := .agg #[.string s, .slice la L.length lc, .int .i64 (y - 1), .int .i64 n0]) (by simp (disch := (first | omega | (simp; done) | (simp; omega))) [results, Try.results86, go_sem, r0, r1, r2, r3]) rfl ?_
      exact HRET.out
    · go_wp2_with fail
      refine (l01Int_lit _ _ pb a cap l _ HC5.out ?size (by decide) (by decide) ?nums).mono ?_
      case size => rfl
      case nums => exact Nums.of (by rfl)
      rintro e w6 ⟨Y, rfl, hYI, hc6, ho6⟩
      have hz6 := ho6.size
      have hr6 := HR5.out.only ho6 (.inr (by omega))
      have hq6 := HQ5.out.only ho6 (.inr (by omega))
      have hm7 : (M.sl la lc 1 3 (intM L)).Mine (w6.setCell ⟨w4.heap.size, 3, none⟩ (.int .i64 Y)) w1.heap.size := (HM5.out.keep (fun b h1 h2 => ho6.block b h2 (.inr (by omega)))).keep2 (fun b hb => heapSet _ _ _ _ (by have := HLT.out b hb; simp only; omega))
      have hc7 : Cur pb a cap l (w6.setCell ⟨w4.heap.size, 3, none⟩ (.int .i64 Y)) := hc6.belowB (B := w.heap.size) (Below.setCell (Below.refl _ _) (by simp; omega) _) hpl
      have hoo7 : OnlyIn pb (pb + 1) w (w6.setCell ⟨w4.heap.size, 3, none⟩ (.int .i64 Y)) := (HOO5.out.trans ho6).thenBelow (Below.setCell (Below.refl _ _) (by simp; omega) _)
      have hw7 : (Bnd.mk s L K Y).wf1 := ⟨HW5.out.1, HW5.out.2.1, HW5.out.2.2.1, HW5.out.2.2.2.1, hYI⟩
      obtain ⟨r0, r1, r2, r3, g0, g1, g2, g3⟩ := hr6
      obtain ⟨q0, q1, q2, q3, f0, f1, f2, f3⟩ := hq6
      have hret := DrawnBd.boxed (w := w) (s := s) (k := K) (n := Y) (x := L) hm7 (by omega) hw7 hc7 hoo7 hpl (by first | omega | (simp; omega))
      simp only [setCells, Nat.zero_add, Nat.reduceAdd] at hret
      clear hm7 hc7 hoo7 hw7 hc6 ho6
      have HRET := Lib.hid hret; clear hret
      go_wp2_with fail
      refine bodyPost_ret (v := .agg #[.string s, .slice la L.length lc, .int .i64 K, .int .i64 Y]) (by simp (disch := (first | omega | (simp; done) | (simp; omega))) [results, Try.results86, go_sem, r0, r1, r2, r3]) rfl ?_
      exact HRET.out
    · go_wp2_with fail
      refine (l2AnySet_calls pb a cap l _ HC5.out).mono ?_
      rintro e w6 ⟨L6, la6, lc6, rfl, hL6, hLs6, hmL6, hc6, ho6⟩
      have hLl6 := Ints.len hmL6.in_
      have hz6 := ho6.size
      have hr6 := HR5.out.only ho6 (.inr (by omega))
      have hq6 := HQ5.out.only ho6 (.inr (by omega))
      have hm7 : (M.sl la6 lc6 1 3 (intM L6)).Mine (w6.setCell ⟨w4.heap.size, 1, none⟩ (.slice la6 L6.length lc6)) w5.heap.size := hmL6.keep2 (fun b hb => heapSet _ _ _ _ (by have := (hmL6.lt b hb).1; simp only; omega))
      have hc7 : Cur pb a cap l (w6.setCell ⟨w4.heap.size, 1, none⟩ (.slice la6 L6.length lc6)) := hc6.belowB (B := w.heap.size) (Below.setCell (Below.refl _ _) (by simp; omega) _) hpl
      have hoo7 : OnlyIn pb (pb + 1) w (w6.setCell ⟨w4.heap.size, 1, none⟩ (.slice la6 L6.length lc6)) := (HOO5.out.trans ho6).thenBelow (Below.setCell (Below.refl _ _) (by simp; omega) _)
      have hw7 : (Bnd.mk s L6 K n0).wf1 := ⟨HW5.out.1, hL6, hLs6, HW5.out.2.2.2⟩
      obtain ⟨r0, r1, r2, r3, g0, g1, g2, g3⟩ := hr6
      obtain ⟨q0, q1, q2, q3, f0, f1, f2, f3⟩ := hq6
      have hret := DrawnBd.boxed (w := w) (s := s) (k := K) (n := n0) (x := L6) hm7 (by omega) hw7 hc7 hoo7 hpl (by first | omega | (simp; omega))
      simp only [setCells, Nat.zero_add, Nat.reduceAdd] at hret
      clear hm7 hc7 hoo7 hw7 hc6 ho6
      have HRET := Lib.hid hret; clear hret
      go_wp2_with fail
      refine bodyPost_ret (v := .agg #[.string s, .slice la6 L6.length lc6, .int .i64 K, .int .i64 n0]) (by simp (disch := (first | omega | (simp; done) | (simp; omega))) [results, Try.results86, go_sem, r0, r1, r2, r3]) rfl ?_
      exact HRET.out
    · go_wp2_with fail
      refine (l01Pick_lit _ _ pb a cap l _ HC5.out ?size (by decide) (by decide) ?texts).mono ?_
      case size => rfl
      case texts => exact Texts.of (by rfl)
      rintro e w6 ⟨Y, rfl, hYz, hc6, ho6⟩
      have hz6 := ho6.size
      have hr6 := HR5.out.only ho6 (.inr (by omega))
      have hq6 := HQ5.out.only ho6 (.inr (by omega))
      have hm7 : (M.sl la lc 1 3 (intM L)).Mine (w6.setCell ⟨w4.heap.size, 0, none⟩ (.string Y)) w1.heap.size := (HM5.out.keep (fun b h1 h2 => ho6.block b h2 (.inr (by omega)))).keep2 (fun b hb => heapSet _ _ _ _ (by have := HLT.out b hb; simp only; omega))
      have hc7 : Cur pb a cap l (w6.setCell ⟨w4.heap.size, 0, none⟩ (.string Y)) := hc6.belowB (B := w.heap.size) (Below.setCell (Below.refl _ _) (by simp; omega) _) hpl
      have hoo7 : OnlyIn pb (pb + 1) w (w6.setCell ⟨w4.heap.size, 0, none⟩ (.string Y)) := (HOO5.out.trans ho6).thenBelow (Below.setCell (Below.refl _ _) (by simp; omega) _)
      have hw7 : (Bnd.mk Y L K n0).wf1 := ⟨hYz, HW5.out.2⟩
      obtain ⟨r0, r1, r2, r3, g0, g1, g2, g3⟩ := hr6
      obtain ⟨q0, q1, q2, q3, f0, f1, f2, f3⟩ := hq6
      have hret := DrawnBd.boxed (w := w) (s := Y) (k := K) (n := n0) (x := L) hm7 (by omega) hw7 hc7 hoo7 hpl (by first | omega | (simp; omega))
      simp only [setCells, Nat.zero_add, Nat.reduceAdd] at hret
      clear hm7 hc7 hoo7 hw7 hc6 ho6
      have HRET := Lib.hid hret; clear hret
      go_wp2_with fail
      refine bodyPost_ret (v := .agg #[.string Y, .slice la L.length lc, .int .i64 K, .int .i64 n0]) (by simp (disch := (first | omega | (simp; done) | (simp; omega))) [results, Try.results86, go_sem, r0, r1, r2, r3]) rfl ?_
      exact HRET.out
end Go.Proofs.Ytghbnehocggnnaa

/-
  Walks: an identifier drawn, a table of bindings drawn. No condition.
-/
set_option linter.unusedVariables false
set_option linter.unusedSimpArgs false
set_option maxRecDepth 100000
namespace Go.Proofs.Ytghbnehocggnnaa
open Go.RowKit

/-- an identifier drawn (or any piece of syntax) -/
def DrawnId (pb : Nat) (a : Option Addr) (cap : Nat) (l : List Int) (w : World) (e : Ending) (w' : World) : Prop :=
  ∃ (k n : Int) (s : ByteArray) (x : List Int) (ds : List Syn) (xa : Option Addr) (xc : Nat) (a' : Option Addr) (cap' : Nat) (ms : List M), e = .returned (.agg #[.int .i64 k, .int .i64 n, .string s, .slice xa x.length xc, .slice a' ms.length cap']) ∧
    Syn.IsL 27 ds ms ∧ (SynOwn 27 xa xc x a' cap' ms).Mine w' w.heap.size ∧ (Syn.mk k n s x ds).wf3 ∧ 1 + Syn.countL ds ≤ 400 ∧ Cur pb a cap l w' ∧ OnlyIn pb (pb + 1) w w'
theorem DrawnId.boxed {pb : Nat} {a : Option Addr} {cap : Nat} {l : List Int} {w W : World} {k n : Int} {s : ByteArray} {x : List Int} {ds : List Syn} {xa : Option Addr} {xc : Nat} {a' : Option Addr} {cap' : Nat} {ms : List M} {c : Nat}
    (hi : Syn.IsL 27 ds ms) (hm : (SynOwn 27 xa xc x a' cap' ms).Mine W c) (hc : w.heap.size < c) (hw : (Syn.mk k n s x ds).wf3) (hct : 1 + Syn.countL ds ≤ 400) (hcur : Cur pb a cap l W) (ho : OnlyIn pb (pb + 1) w W) (hp : pb < w.heap.size) (hsz : w.heap.size < W.heap.size) :
    DrawnId pb a cap l w (.returned (.agg #[.int .i64 k, .int .i64 n, .string s, .slice xa x.length xc, .slice a' ms.length cap'])) (setCells W w.heap.size 0 [.int .i64 k, .int .i64 n, .string s, .slice xa x.length xc, .slice a' ms.length cap']) := by
  have ho2 := setCells_Only w.heap.size (bs := [w.heap.size]) (by simp) [.int .i64 k, .int .i64 n, .string s, .slice xa x.length xc, .slice a' ms.length cap'] W 0 (Only.refl _ W)
  refine ⟨k, n, s, x, ds, xa, xc, a', cap', ms, rfl, hi, ?_, hw, hct, ?_, ?_⟩
  · exact M.Mine.mono (hm.only ho2 fun b hb hn => by have := (hm.lt b hb).1; simp at hn; omega) (by omega)
  · exact hcur.belowB (B := w.heap.size) (ho2.below (by omega) (by simp)) hp
  · exact ho.thenOnly ho2 (fun y hy => by simp at hy; omega)
set_option maxHeartbeats 4000000 in
theorem l3Id_calls (pb : Nat) (a : Option Addr) (cap : Nat) (l : List Int) (w : World) (hc : Cur pb a cap l w) :
    Calls Try.prog 49 #[.pointer (some ⟨pb, 0, none⟩)] w (DrawnId pb a cap l w) := by
  have hpl := hc.lt
  have HC := Lib.hid hc; clear hc
  go_enter Try.func49, Try.ntmps49
  go_wp2_with fail
  refine (l01Once_calls 10 pb a cap l _ (HC.out.below (by (repeat (first | with_reducible assumption | with_reducible exact Below.refl _ _ | with_reducible refine Below.drew ?_ | with_reducible refine belowDrewN ?_ _ | ((with_reducible refine Below.setCell ?_ ?_ _); rotate_left; focus (first | omega | (simp; done) | (simp; omega))) | ((with_reducible refine Below.alloc ?_ ?_ _); rotate_left; focus (first | omega | (simp; done) | (simp; omega))))))) (by decide) (by decide)).mono ?_
  rintro e w1 ⟨bb, rfl, hc1, ho1⟩
  have hz1 := ho1.size
  simp only [World.size_alloc] at hz1
  have hr1 : SBox w.heap.size 0 0 ⟨#[]⟩ (.slice none 0 0) (.slice none 0 0) w1 := (SBox.new 0 0 ⟨#[]⟩ (.slice none 0 0) (.slice none 0 0) w).only ho1 (.inr (by omega))
  have hoo1 : OnlyIn pb (pb + 1) w w1 := ((OnlyIn.refl _ _ _).new _).trans ho1
  clear ho1
  have HC1 := Lib.hid hc1; clear hc1; have HR1 := Lib.hid hr1; clear hr1; have HOO1 := Lib.hid hoo1; clear hoo1
  cases bb with
  | true =>
    go_wp2_with fail
    refine (l2Any_calls pb a cap l _ HC1.out).mono ?_
    rintro e w2 ⟨k1, n1, s1, x1, ds1, xa1, xc1, a1, cap1, ms1, rfl, hi1, hm1, hw1, hct1, hc2, ho2⟩
    have hz2 := ho2.size
    obtain ⟨r0, r1, r2, r3, r4, g0, g1, g2, g3, g4⟩ := HR1.out.only ho2 (.inr (by omega))
    have hret := DrawnId.boxed (w := w) (k := k1) (n := n1) (s := s1) (x := x1) hi1 hm1 (by omega) hw1.wf3 hct1 hc2 (HOO1.out.trans ho2) hpl (by omega)
    simp only [setCells, Nat.zero_add, Nat.reduceAdd] at hret
    clear hi1 hm1 hw1 hct1 hc2 ho2
    have HRET := Lib.hid hret; clear hret
    go_wp2_with fail
    refine bodyPost_ret (v := .agg #[.int .i64 k1, .int .i64 n1, .string s1, .slice xa1 x1.length xc1, .slice a1 ms1.length cap1]) (by simp [results, Try.results49, go_sem, r0, r1, r2, r3, r4]) rfl ?_
    exact HRET.out
  | false =>
    go_wp2_with fail
    refine (l01Pick_lit _ _ pb a cap l _ HC1.out ?size (by decide) (by decide) ?texts).mono ?_
    case size => rfl
    case texts => exact Texts.of (by rfl)
    rintro e w2 ⟨s, rfl, hs, hc2, ho2⟩
    have hz2 := ho2.size
    have HC2 := Lib.hid hc2; clear hc2; have HO2 := Lib.hid ho2; clear ho2
    go_wp2_with fail
    refine (l2Set_calls pb a cap l _ HC2.out).mono ?_
    rintro e w3 ⟨L, la, lc, rfl, hL, hLs, hmL, hc3, ho3⟩
    have hz3 := ho3.size
    have hLl := Ints.len hmL.in_
    have HLS := Lib.hid hLs; clear hLs; have HML := Lib.hid hmL; clear hmL; have HC3 := Lib.hid hc3; clear hc3; have HO3 := Lib.hid ho3; clear ho3
    go_wp2_with fail
    refine (l01Below_calls 9 pb a cap l _ HC3.out (by decide) (by decide)).mono ?_
    rintro e w4 ⟨y, rfl, hy0, hy1, hc4, ho4⟩
    have hz4 := ho4.size
    have hm4 := HML.out.keep (w' := w4) (fun b h1 h2 => ho4.block b h2 (.inr (by omega)))
    have HC4 := Lib.hid hc4; clear hc4; have HO4 := Lib.hid ho4; clear ho4; have HM4 := Lib.hid hm4; clear hm4
    go_wp2_with fail
    refine (sPut_calls la lc L (1 + y) _ HM4.out.in_ (by omega)).mono ?_
    rintro e w5 ⟨a5, c5, rfl, hm5, hb5⟩
    have hz5 := hb5.size
    have hpl5 := put_length (1 + y) L
    have hX : (put (1 + y) L).length ≤ 40 ∧ ∀ z ∈ put (1 + y) L, I64 z := put_small (m := 1 + y) (by omega) (by omega) L (by omega) HLS.out
    obtain ⟨X, hXe⟩ : ∃ X, X = put (1 + y) L := ⟨_, rfl⟩
    rw [← hXe] at hm5 hX
    rw [← hXe]
    have ho24 : OnlyIn pb (pb + 1) w1 w4 := (HO2.out.trans HO3.out).trans HO4.out
    obtain ⟨r0, r1, r2, r3, r4, g0, g1, g2, g3, g4⟩ := (HR1.out.only ho24 (.inr (by omega))).below hb5 (by omega)
    have hc5 := HC4.out.below hb5
    have hm5' : (SynOwn 27 a5 c5 X none 0 []).Mine w5 w4.heap.size := ⟨⟨hm5.own, (M.Mine.nil w5 w4.heap.size 5 27 (by decide)).own, trivial⟩, by rw [SynOwn_blocks]; simpa [M.blocks, M.blocksL, addrBlocks, intM_blocks] using hm5.dup⟩
    have hxl5 := Ints.len hm5.in_
    have hret := DrawnId.boxed (w := w) (k := 1) (n := 0) (s := s) (x := X) (ds := []) (ms := []) (show Syn.IsL 27 [] [] from rfl) hm5' (by omega) ⟨by unfold I64; omega, by unfold I64; omega, hs, hX.1, hX.2, trivial⟩ (by simp [Syn.countL]) hc5 ((HOO1.out.trans ho24).thenBelow (hb5.mono (by omega))) hpl (by omega)
    simp only [setCells, Nat.zero_add, Nat.reduceAdd, List.length_nil] at hret
    clear hpl5 hX hXe hm5 hm5' hb5 hc5 ho24
    have HRET := Lib.hid hret; clear hret
    go_wp2_with fail
    refine bodyPost_ret (v := .agg #[.int .i64 1, .int .i64 0, .string s, .slice a5 X.length c5, .slice none 0 0]) (by simp [results, Try.results49, go_sem, r0, r1, r2, r3, r4]) rfl ?_
    exact HRET.out
end Go.Proofs.Ytghbnehocggnnaa
