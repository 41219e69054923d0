/-
  Walks: AddBinding. No condition.
-/
import Derived.Test.YtkofpfcbjfkdpaaB2
import Derived.Test.YtkofpfcbjfkdpaaH3
import Derived.Test.YtkofpfcbjfkdpaaGM
set_option linter.unusedVariables false
set_option linter.unusedSimpArgs false
set_option maxRecDepth 100000
namespace Go.Proofs.Ytkofpfcbjfkdpaa
open Go.RowKit

/-- may the binding be added -/
noncomputable def addOk (ds : List Bnd) (s : ByteArray) (x : List Int) (k n : Int) : Bool := areB ds && (bndOk s x k n && (decide (ds.length < 1000) && !clashB ds s x))
noncomputable def addTo (ds : List Bnd) (s : ByteArray) (x : List Int) (k n : Int) : List Bnd := if addOk ds s x k n = true then ds ++ [.mk s x k n] else ds
theorem addTo_no {ds : List Bnd} {s : ByteArray} {x : List Int} {k n : Int} (h : addOk ds s x k n = false) : addTo ds s x k n = ds := by simp [addTo, h]
theorem addTo_yes {ds : List Bnd} {s : ByteArray} {x : List Int} {k n : Int} (h : addOk ds s x k n = true) : addTo ds s x k n = ds ++ [.mk s x k n] := by simp [addTo, h]
theorem addTo_places (ds : List Bnd) (s : ByteArray) (x : List Int) (k n : Int) : Bnd.placesL (addTo ds s x k n) ≤ Bnd.placesL ds + (3 + x.length) := by
  unfold addTo; split
  · rw [Bnd.placesL_append]; simp [Bnd.placesL, Bnd.places]
  · omega
theorem markBinding_at (s : ByteArray) (x : List Int) (kk n : Int) (xa : Option Addr) (xc : Nat) (k : Int) (lo hi : Nat) (w : World) (h : (M.sl xa xc 1 3 (intM x)).At lo hi w) (hk0 : 0 ≤ k) (hk : k + (x.length : Int) ≤ 1000000000000) :
    Calls Try.prog 61 #[.agg #[.string s, .slice xa x.length xc, .int .i64 kk, .int .i64 n], .int .i64 k] w (MarkedAt (.int .i64 (k + x.length)) (M.sl xa xc 1 3 (intM (cnt k x.length))) lo hi w) := by
  have H := Lib.hid h; clear h
  go_enter Try.func61, Try.ntmps61
  go_wp2_with fail
  refine (markIntS_at xa xc x k lo hi _ (H.out.below (by (repeat (first | with_reducible assumption | with_reducible exact Below.refl _ _ | with_reducible refine Below.drew ?_ | with_reducible refine belowDrewN ?_ _ | ((with_reducible refine Below.setCell ?_ ?_ _); rotate_left; focus (first | omega | (simp; done) | (simp; omega))) | ((with_reducible refine Below.alloc ?_ ?_ _); rotate_left; focus (first | omega | (simp; done) | (simp; omega))))))) hk0 hk).mono ?_
  rintro e w1 ⟨rfl, h1, h2⟩
  have h3 := OnlyIn.before (w := w) h2 (by (repeat (first | with_reducible assumption | with_reducible exact Below.refl _ _ | with_reducible refine Below.drew ?_ | with_reducible refine belowDrewN ?_ _ | ((with_reducible refine Below.setCell ?_ ?_ _); rotate_left; focus (first | omega | (simp; done) | (simp; omega))) | ((with_reducible refine Below.alloc ?_ ?_ _); rotate_left; focus (first | omega | (simp; done) | (simp; omega))))))
  have H1 := Lib.hid h1; clear h1; have H2 := Lib.hid h2; clear h2; have H3 := Lib.hid h3; clear h3
  go_wp2_with fail
  go_ret
  exact ⟨rfl, H1.out, H3.out⟩
theorem heldBinding_of (s : ByteArray) (kk n : Int) (xn : Nat) (xa : Option Addr) (xc : Nat) (k : Int) (w : World) (hin : (M.sl xa xc 1 3 (intM (cnt k xn))).In w) (hk0 : 0 ≤ k) (hkb : k + (xn : Int) ≤ 1000000000000) :
    Calls Try.prog 89 #[.agg #[.string s, .slice xa xn xc, .int .i64 kk, .int .i64 n], .int .i64 k] w (Ret (.int .i64 (k + (xn : Int))) w) := by
  have HIN := Lib.hid hin; clear hin
  go_enter Try.func89, Try.ntmps89
  go_wp2_with fail
  refine (heldIntS_calls xa xc xn k _ (HIN.out.below (by (repeat (first | with_reducible assumption | with_reducible exact Below.refl _ _ | with_reducible refine Below.drew ?_ | with_reducible refine belowDrewN ?_ _ | ((with_reducible refine Below.setCell ?_ ?_ _); rotate_left; focus (first | omega | (simp; done) | (simp; omega))) | ((with_reducible refine Below.alloc ?_ ?_ _); rotate_left; focus (first | omega | (simp; done) | (simp; omega))))))) hk0 hkb).mono ?_
  rintro e w1 ⟨rfl, hb1⟩
  have hpos : ¬ (k + (xn : Int) < 0) := by omega
  go_wp2_with fail
  go_ret
  exact ⟨rfl, by (repeat (first | with_reducible assumption | with_reducible exact Below.refl _ _ | with_reducible refine Below.drew ?_ | with_reducible refine belowDrewN ?_ _ | ((with_reducible refine Below.setCell ?_ ?_ _); rotate_left; focus (first | omega | (simp; done) | (simp; omega))) | ((with_reducible refine Below.alloc ?_ ?_ _); rotate_left; focus (first | omega | (simp; done) | (simp; omega))) | ((with_reducible refine Below.trans ?_ (Below.mono hb1 ?_)); rotate_left; focus (first | omega | (simp; done) | (simp; omega)))))⟩
/-- What adding hands back: the bindings, and whether it was added. -/
def RetAdd (e : TypeId) (ds : List Bnd) (b : Bool) (w : World) (en : Ending) (w' : World) : Prop :=
  ∃ a cap ms, en = .returned (.tuple #[.slice a ms.length cap, .bool b]) ∧ Bnd.IsL ds ms ∧ (M.sl a cap 4 e ms).Mine w' w.heap.size ∧ Below w.heap.size w w'
theorem Bnd.wtX_snoc (ds : List Bnd) (d : Bnd) : Bnd.wtX (ds ++ [d]) = Bnd.wtX ds + d.wt := by rw [Bnd.wtX_append]; simp [Bnd.wtX]
set_option maxHeartbeats 4000000 in
theorem iAddBinding_calls (ds : List Bnd) (a : Option Addr) (cap : Nat) (ms : List M) (s : ByteArray) (x : List Int) (k n : Int) (xa : Option Addr) (xc : Nat) (w : World) (hwf : Bnd.wfL ds) (hs9 : ∀ d ∈ ds, d.s.size ≤ 1048576) (hsz9 : s.size ≤ 9223372036854775807)
    (hB : ds.length + Bnd.wtX ds ≤ 4000000) (hxB : x.length ≤ 4000000) (hi : Bnd.IsL ds ms) (hin : (M.sl a cap 4 49 ms).In w) (hx : (M.sl xa xc 1 3 (intM x)).In w) :
    Calls Try.prog 34 #[.slice a ms.length cap, .agg #[.string s, .slice xa x.length xc, .int .i64 k, .int .i64 n]] w (RetAdd 49 (addTo ds s x k n) (addOk ds s x k n) w) := by
  have hl := hi.length
  have hcap := hin.len
  have hxl := Ints.len hx
  have HI := Lib.hid hi; clear hi; have HIN := Lib.hid hin; clear hin; have HX := Lib.hid hx; clear hx; have HWF := Lib.hid hwf; clear hwf; have HS9 := Lib.hid hs9; clear hs9; have HL := Lib.hid hl; clear hl
  go_enter Try.func34, Try.ntmps34
  go_wp2_with fail
  refine (iAreBindings_calls ds a cap ms _ HWF.out HI.out (HIN.out.below (by (repeat (first | with_reducible assumption | with_reducible exact Below.refl _ _ | with_reducible refine Below.drew ?_ | with_reducible refine belowDrewN ?_ _ | ((with_reducible refine Below.setCell ?_ ?_ _); rotate_left; focus (first | omega | (simp; done) | (simp; omega))) | ((with_reducible refine Below.alloc ?_ ?_ _); rotate_left; focus (first | omega | (simp; done) | (simp; omega))))))) HS9.out).mono ?_
  rintro e w1 ⟨rfl, hb1⟩
  have hq1 : BBox w.heap.size s (.slice xa x.length xc) k n w1 := (BBox.new s (.slice xa x.length xc) k n w).below hb1 (by simp)
  obtain ⟨hc1, hf1⟩ := bcell hb1; have hz1 := hb1.size; (try simp only [World.size_alloc, World.size_setCell, World.size_drew, sizeDrewN] at hz1 hc1 hf1)
  obtain ⟨q0, q1, q2, q3, f0, f1, f2, f3⟩ := hq1
  have p0 : w.heap.size < w1.heap.size := by omega
  clear hc1 hf1
  cases hA : areB ds with
  | false =>
    have hno : addOk ds s x k n = false := by simp [addOk, hA]
    have HA := Lib.hid hA; clear hA; have HNO := Lib.hid hno; clear hno
    go_wp2_with fail
    refine (copyBindings_calls ds a cap ms _ hB HI.out (HIN.out.below (by (repeat (first | with_reducible assumption | with_reducible exact Below.refl _ _ | with_reducible refine Below.drew ?_ | with_reducible refine belowDrewN ?_ _ | ((with_reducible refine Below.setCell ?_ ?_ _); rotate_left; focus (first | omega | (simp; done) | (simp; omega))) | ((with_reducible refine Below.alloc ?_ ?_ _); rotate_left; focus (first | omega | (simp; done) | (simp; omega))) | ((with_reducible refine Below.trans ?_ (Below.mono hb1 ?_)); rotate_left; focus (first | omega | (simp; done) | (simp; omega)))))))).mono ?_
    rintro e w2 ⟨a2, cap2, ms2, rfl, hi2, hm2, hb2⟩
    have HI2 := Lib.hid hi2; clear hi2; have HM2 := Lib.hid hm2; clear hm2
    go_wp2_with fail
    go_ret2
    exact ⟨a2, cap2, ms2, by rw [HNO.out]; rfl, by rw [addTo_no HNO.out]; exact HI2.out, by (exact M.Mine.mono (M.Mine.keep HM2.out (fun b hb1 hb2 => by (try simp at hb1); simp (disch := (first | omega | (simp; omega))) only [heapSet, heapNew, heapDrew, heapDrewN])) (by first | omega | (simp; done) | (simp; omega))), by (repeat (first | with_reducible assumption | with_reducible exact Below.refl _ _ | with_reducible refine Below.drew ?_ | with_reducible refine belowDrewN ?_ _ | ((with_reducible refine Below.setCell ?_ ?_ _); rotate_left; focus (first | omega | (simp; done) | (simp; omega))) | ((with_reducible refine Below.alloc ?_ ?_ _); rotate_left; focus (first | omega | (simp; done) | (simp; omega))) | ((with_reducible refine Below.trans ?_ (Below.mono hb1 ?_)); rotate_left; focus (first | omega | (simp; done) | (simp; omega))) | ((with_reducible refine Below.trans ?_ (Below.mono hb2 ?_)); rotate_left; focus (first | omega | (simp; done) | (simp; omega)))))⟩
  | true =>
    go_wp2_with fail
    refine (iIsBinding_calls s x k n xa xc _ hsz9 (HX.out.below (by (repeat (first | with_reducible assumption | with_reducible exact Below.refl _ _ | with_reducible refine Below.drew ?_ | with_reducible refine belowDrewN ?_ _ | ((with_reducible refine Below.setCell ?_ ?_ _); rotate_left; focus (first | omega | (simp; done) | (simp; omega))) | ((with_reducible refine Below.alloc ?_ ?_ _); rotate_left; focus (first | omega | (simp; done) | (simp; omega))) | ((with_reducible refine Below.trans ?_ (Below.mono hb1 ?_)); rotate_left; focus (first | omega | (simp; done) | (simp; omega)))))))).mono ?_
    rintro e w2 ⟨rfl, hb2⟩
    have q2' : BBox w.heap.size s (.slice xa x.length xc) k n w2 := BBox.below ⟨q0, q1, q2, q3, f0, f1, f2, f3⟩ hb2 p0
    clear q0 q1 q2 q3 f0 f1 f2 f3
    obtain ⟨q0, q1, q2, q3, f0, f1, f2, f3⟩ := q2'
    obtain ⟨hc2, hf2⟩ := bcell hb2; have hz2 := hb2.size; (try simp only [World.size_alloc, World.size_setCell, World.size_drew, sizeDrewN] at hz2 hc2 hf2)
    have p1 : w.heap.size < w2.heap.size := by omega
    clear hc2 hf2
    cases hK : bndOk s x k n with
    | false =>
      have hno : addOk ds s x k n = false := by simp [addOk, hK]
      have HK := Lib.hid hK; clear hK; have HA := Lib.hid hA; clear hA; have HNO := Lib.hid hno; clear hno
      go_wp2_with fail
      refine (copyBindings_calls ds a cap ms _ hB HI.out (HIN.out.below (by (repeat (first | with_reducible assumption | with_reducible exact Below.refl _ _ | with_reducible refine Below.drew ?_ | with_reducible refine belowDrewN ?_ _ | ((with_reducible refine Below.setCell ?_ ?_ _); rotate_left; focus (first | omega | (simp; done) | (simp; omega))) | ((with_reducible refine Below.alloc ?_ ?_ _); rotate_left; focus (first | omega | (simp; done) | (simp; omega))) | ((with_reducible refine Below.trans ?_ (Below.mono hb1 ?_)); rotate_left; focus (first | omega | (simp; done) | (simp; omega))) | ((with_reducible refine Below.trans ?_ (Below.mono hb2 ?_)); rotate_left; focus (first | omega | (simp; done) | (simp; omega)))))))).mono ?_
      rintro e w3 ⟨a2, cap2, ms2, rfl, hi2, hm2, hb3⟩
      have HI2 := Lib.hid hi2; clear hi2; have HM2 := Lib.hid hm2; clear hm2
      go_wp2_with fail
      go_ret2
      exact ⟨a2, cap2, ms2, by rw [HNO.out]; rfl, by rw [addTo_no HNO.out]; exact HI2.out, by (exact M.Mine.mono (M.Mine.keep HM2.out (fun b hb1 hb2 => by (try simp at hb1); simp (disch := (first | omega | (simp; omega))) only [heapSet, heapNew, heapDrew, heapDrewN])) (by first | omega | (simp; done) | (simp; omega))), by (repeat (first | with_reducible assumption | with_reducible exact Below.refl _ _ | with_reducible refine Below.drew ?_ | with_reducible refine belowDrewN ?_ _ | ((with_reducible refine Below.setCell ?_ ?_ _); rotate_left; focus (first | omega | (simp; done) | (simp; omega))) | ((with_reducible refine Below.alloc ?_ ?_ _); rotate_left; focus (first | omega | (simp; done) | (simp; omega))) | ((with_reducible refine Below.trans ?_ (Below.mono hb1 ?_)); rotate_left; focus (first | omega | (simp; done) | (simp; omega))) | ((with_reducible refine Below.trans ?_ (Below.mono hb2 ?_)); rotate_left; focus (first | omega | (simp; done) | (simp; omega))) | ((with_reducible refine Below.trans ?_ (Below.mono hb3 ?_)); rotate_left; focus (first | omega | (simp; done) | (simp; omega)))))⟩
    | true =>
      by_cases h1000 : ds.length < 1000
      · have hm1000 : ¬ (1000 : Int) ≤ (ms.length : Int) := by rw [HL.out]; omega
        go_wp2_with fail
        refine (isBound_calls ds a cap ms s x xa xc _ HI.out (HIN.out.below (by (repeat (first | with_reducible assumption | with_reducible exact Below.refl _ _ | with_reducible refine Below.drew ?_ | with_reducible refine belowDrewN ?_ _ | ((with_reducible refine Below.setCell ?_ ?_ _); rotate_left; focus (first | omega | (simp; done) | (simp; omega))) | ((with_reducible refine Below.alloc ?_ ?_ _); rotate_left; focus (first | omega | (simp; done) | (simp; omega))) | ((with_reducible refine Below.trans ?_ (Below.mono hb1 ?_)); rotate_left; focus (first | omega | (simp; done) | (simp; omega))) | ((with_reducible refine Below.trans ?_ (Below.mono hb2 ?_)); rotate_left; focus (first | omega | (simp; done) | (simp; omega))))))) (HX.out.below (by (repeat (first | with_reducible assumption | with_reducible exact Below.refl _ _ | with_reducible refine Below.drew ?_ | with_reducible refine belowDrewN ?_ _ | ((with_reducible refine Below.setCell ?_ ?_ _); rotate_left; focus (first | omega | (simp; done) | (simp; omega))) | ((with_reducible refine Below.alloc ?_ ?_ _); rotate_left; focus (first | omega | (simp; done) | (simp; omega))) | ((with_reducible refine Below.trans ?_ (Below.mono hb1 ?_)); rotate_left; focus (first | omega | (simp; done) | (simp; omega))) | ((with_reducible refine Below.trans ?_ (Below.mono hb2 ?_)); rotate_left; focus (first | omega | (simp; done) | (simp; omega)))))))).mono ?_
        rintro e w3 ⟨rfl, hb3⟩
        have q3' : BBox w.heap.size s (.slice xa x.length xc) k n w3 := BBox.below ⟨q0, q1, q2, q3, f0, f1, f2, f3⟩ hb3 p1
        clear q0 q1 q2 q3 f0 f1 f2 f3
        have hz3 := hb3.size
        cases hC : clashB ds s x with
        | true =>
          have hno : addOk ds s x k n = false := by simp [addOk, hC]
          have HK := Lib.hid hK; clear hK; have HA := Lib.hid hA; clear hA; have HNO := Lib.hid hno; clear hno; have HC := Lib.hid hC; clear hC
          go_wp2_with fail
          refine (copyBindings_calls ds a cap ms _ hB HI.out (HIN.out.below (by (repeat (first | with_reducible assumption | with_reducible exact Below.refl _ _ | with_reducible refine Below.drew ?_ | with_reducible refine belowDrewN ?_ _ | ((with_reducible refine Below.setCell ?_ ?_ _); rotate_left; focus (first | omega | (simp; done) | (simp; omega))) | ((with_reducible refine Below.alloc ?_ ?_ _); rotate_left; focus (first | omega | (simp; done) | (simp; omega))) | ((with_reducible refine Below.trans ?_ (Below.mono hb1 ?_)); rotate_left; focus (first | omega | (simp; done) | (simp; omega))) | ((with_reducible refine Below.trans ?_ (Below.mono hb2 ?_)); rotate_left; focus (first | omega | (simp; done) | (simp; omega))) | ((with_reducible refine Below.trans ?_ (Below.mono hb3 ?_)); rotate_left; focus (first | omega | (simp; done) | (simp; omega)))))))).mono ?_
          rintro e w4 ⟨a2, cap2, ms2, rfl, hi2, hm2, hb4⟩
          have HI2 := Lib.hid hi2; clear hi2; have HM2 := Lib.hid hm2; clear hm2
          go_wp2_with fail
          go_ret2
          exact ⟨a2, cap2, ms2, by rw [HNO.out]; rfl, by rw [addTo_no HNO.out]; exact HI2.out, by (exact M.Mine.mono (M.Mine.keep HM2.out (fun b hb1 hb2 => by (try simp at hb1); simp (disch := (first | omega | (simp; omega))) only [heapSet, heapNew, heapDrew, heapDrewN])) (by first | omega | (simp; done) | (simp; omega))), by (repeat (first | with_reducible assumption | with_reducible exact Below.refl _ _ | with_reducible refine Below.drew ?_ | with_reducible refine belowDrewN ?_ _ | ((with_reducible refine Below.setCell ?_ ?_ _); rotate_left; focus (first | omega | (simp; done) | (simp; omega))) | ((with_reducible refine Below.alloc ?_ ?_ _); rotate_left; focus (first | omega | (simp; done) | (simp; omega))) | ((with_reducible refine Below.trans ?_ (Below.mono hb1 ?_)); rotate_left; focus (first | omega | (simp; done) | (simp; omega))) | ((with_reducible refine Below.trans ?_ (Below.mono hb2 ?_)); rotate_left; focus (first | omega | (simp; done) | (simp; omega))) | ((with_reducible refine Below.trans ?_ (Below.mono hb3 ?_)); rotate_left; focus (first | omega | (simp; done) | (simp; omega))) | ((with_reducible refine Below.trans ?_ (Below.mono hb4 ?_)); rotate_left; focus (first | omega | (simp; done) | (simp; omega)))))⟩
        | false =>
          have hno : addOk ds s x k n = true := by simp [addOk, hC, hA, hK, h1000]
          have hbz : Below w.heap.size w w3 := by (repeat (first | with_reducible assumption | with_reducible exact Below.refl _ _ | with_reducible refine Below.drew ?_ | with_reducible refine belowDrewN ?_ _ | ((with_reducible refine Below.setCell ?_ ?_ _); rotate_left; focus (first | omega | (simp; done) | (simp; omega))) | ((with_reducible refine Below.alloc ?_ ?_ _); rotate_left; focus (first | omega | (simp; done) | (simp; omega))) | ((with_reducible refine Below.trans ?_ (Below.mono hb1 ?_)); rotate_left; focus (first | omega | (simp; done) | (simp; omega))) | ((with_reducible refine Below.trans ?_ (Below.mono hb2 ?_)); rotate_left; focus (first | omega | (simp; done) | (simp; omega))) | ((with_reducible refine Below.trans ?_ (Below.mono hb3 ?_)); rotate_left; focus (first | omega | (simp; done) | (simp; omega)))))
          have p3 : w.heap.size < w3.heap.size := by omega
          have HK := Lib.hid hK; clear hK; have HA := Lib.hid hA; clear hA; have HNO := Lib.hid hno; clear hno; have HC := Lib.hid hC; clear hC
          go_wp2_with fail
          have hs0 := q3'
          go_region_held3 (fun w' => w'.cell? ⟨w.heap.size, 0, none⟩ = some (.string s) ∧ w'.cell? ⟨w.heap.size, 1, none⟩ = some (.slice xa x.length xc) ∧ w'.cell? ⟨w.heap.size, 2, none⟩ = some (.int .i64 k) ∧ w'.cell? ⟨w.heap.size, 3, none⟩ = some (.int .i64 n))
            (first | (with_reducible exact ⟨hs9.c0, hs9.c1, hs9.c2, hs9.c3⟩) | (with_reducible exact ⟨cellNew hs9.c0, cellNew hs9.c1, cellNew hs9.c2, cellNew hs9.c3⟩) | (simp only [World.cell?_drew]; first | (with_reducible exact ⟨hs9.c0, hs9.c1, hs9.c2, hs9.c3⟩) | (with_reducible exact ⟨cellNew hs9.c0, cellNew hs9.c1, cellNew hs9.c2, cellNew hs9.c3⟩)) | (with_reducible exact ⟨hs8.c0, hs8.c1, hs8.c2, hs8.c3⟩) | (with_reducible exact ⟨cellNew hs8.c0, cellNew hs8.c1, cellNew hs8.c2, cellNew hs8.c3⟩) | (simp only [World.cell?_drew]; first | (with_reducible exact ⟨hs8.c0, hs8.c1, hs8.c2, hs8.c3⟩) | (with_reducible exact ⟨cellNew hs8.c0, cellNew hs8.c1, cellNew hs8.c2, cellNew hs8.c3⟩)) | (with_reducible exact ⟨hs6.c0, hs6.c1, hs6.c2, hs6.c3⟩) | (with_reducible exact ⟨cellNew hs6.c0, cellNew hs6.c1, cellNew hs6.c2, cellNew hs6.c3⟩) | (simp only [World.cell?_drew]; first | (with_reducible exact ⟨hs6.c0, hs6.c1, hs6.c2, hs6.c3⟩) | (with_reducible exact ⟨cellNew hs6.c0, cellNew hs6.c1, cellNew hs6.c2, cellNew hs6.c3⟩)) | (with_reducible exact ⟨hs5.c0, hs5.c1, hs5.c2, hs5.c3⟩) | (with_reducible exact ⟨cellNew hs5.c0, cellNew hs5.c1, cellNew hs5.c2, cellNew hs5.c3⟩) | (simp only [World.cell?_drew]; first | (with_reducible exact ⟨hs5.c0, hs5.c1, hs5.c2, hs5.c3⟩) | (with_reducible exact ⟨cellNew hs5.c0, cellNew hs5.c1, cellNew hs5.c2, cellNew hs5.c3⟩)) | (with_reducible exact ⟨hs0.c0, hs0.c1, hs0.c2, hs0.c3⟩) | (with_reducible exact ⟨cellNew hs0.c0, cellNew hs0.c1, cellNew hs0.c2, cellNew hs0.c3⟩) | (simp only [World.cell?_drew]; first | (with_reducible exact ⟨hs0.c0, hs0.c1, hs0.c2, hs0.c3⟩) | (with_reducible exact ⟨cellNew hs0.c0, cellNew hs0.c1, cellNew hs0.c2, cellNew hs0.c3⟩)))
            (first
              | (go_at_call 109; refine (copyBindings_calls ds a cap ms _ hB HI.out (HIN.out.below (by (repeat (first | with_reducible assumption | with_reducible exact Below.refl _ _ | with_reducible refine Below.drew ?_ | with_reducible refine belowDrewN ?_ _ | ((with_reducible refine Below.setCell ?_ ?_ _); rotate_left; focus (first | omega | (simp; done) | (simp; omega))) | ((with_reducible refine Below.alloc ?_ ?_ _); rotate_left; focus (first | omega | (simp; done) | (simp; omega))) | ((with_reducible refine Below.trans ?_ (Below.mono hbz ?_)); rotate_left; focus (first | omega | (simp; done) | (simp; omega))) | ((with_reducible refine Below.trans ?_ (Below.mono hb6 ?_)); rotate_left; focus (first | omega | (simp; done) | (simp; omega)))))))).mono ?_; rintro e w5 ⟨a5, cap5, ms5, rfl, hi5, hm5, hb5⟩; (first | (have hs8 : BBox w.heap.size s (.slice xa x.length xc) k n w5 := hs6.of (hb5.block _ (by have := hb6.size; simp at this ⊢; omega))) | (have hs5 : BBox w.heap.size s (.slice xa x.length xc) k n w5 := hs0.of (hb5.block _ (by simp; omega)))))
              | (go_at_call 110; refine (copyBinding_calls s x k n xa xc _ hxB (HX.out.below (by (repeat (first | with_reducible assumption | with_reducible exact Below.refl _ _ | with_reducible refine Below.drew ?_ | with_reducible refine belowDrewN ?_ _ | ((with_reducible refine Below.setCell ?_ ?_ _); rotate_left; focus (first | omega | (simp; done) | (simp; omega))) | ((with_reducible refine Below.alloc ?_ ?_ _); rotate_left; focus (first | omega | (simp; done) | (simp; omega))) | ((with_reducible refine Below.trans ?_ (Below.mono hbz ?_)); rotate_left; focus (first | omega | (simp; done) | (simp; omega))) | ((with_reducible refine Below.trans ?_ (Below.mono hb5 ?_)); rotate_left; focus (first | omega | (simp; done) | (simp; omega)))))))).mono ?_; rintro e w6 ⟨xa6, xc6, rfl, hm6, hb6⟩; (first | (have hs8 : BBox w.heap.size s (.slice xa x.length xc) k n w6 := hs5.of (hb6.block _ (by have := hb5.size; simp at this ⊢; omega))) | (have hs6 : BBox w.heap.size s (.slice xa x.length xc) k n w6 := hs0.of (hb6.block _ (by simp; omega)))))
              | (refine step_one rfl _ _ 39 rfl 49 _ 4 56 Try.underlying39 infoBnd rfl (by decide) w3.heap.size a5 cap5 ms5 rfl (by first | exact (hm5.below hb6).mono (by simp) | exact hm5.mono (by have := hb6.size; simp at this; omega)) (by have := hb5.size; have := hb6.size; simp at *; omega) _ (bndM s xa6 xc6 x k n) (bndM_cells _ _ _ _ _ _) rfl (by first | exact (bndM_mine ((M.Mine.below hm6 hb5)) s k n).mono (by simp) | exact (bndM_mine hm6 s k n).mono (by have := hb5.size; simp at this; omega)) (by intro b hb hn; have h1 := hm5.lt b hn; rw [bndM_blocks] at hb; have h2 := Mine.addr_lo hm6 b hb; simp only [World.size_drew] at h1 h2; omega) rfl (by have := hi5.length; unfold maxLen; omega) (by have := hi5.length; omega) ?_; intro a9 cap9 w9 hm9 hb9 hz9 hfr9; have hs9 : BBox w.heap.size s (.slice xa x.length xc) k n w9 := hs8.of (hb9.block _ p3)))
          all_goals
            simp only [Bnd.s_mk, Bnd.x_mk, Bnd.k_mk, Bnd.n_mk] at *
            have hml : (ms5 ++ [bndM s xa6 xc6 x k n]).length = ms5.length + 1 := by simp
            have hfin : Bnd.IsL (ds ++ [.mk s x k n]) (ms5 ++ [bndM s xa6 xc6 x k n]) := hi5.snoc ⟨_, _, rfl⟩
            have hz5 := hb5.size
            have hz6 := hb6.size
            (try simp only [World.size_alloc, World.size_drew] at hz5 hz6)
            have hbf : Below w.heap.size w w9 := by (repeat (first | with_reducible assumption | with_reducible exact Below.refl _ _ | with_reducible refine Below.drew ?_ | with_reducible refine belowDrewN ?_ _ | ((with_reducible refine Below.setCell ?_ ?_ _); rotate_left; focus (first | omega | (simp; done) | (simp; omega))) | ((with_reducible refine Below.alloc ?_ ?_ _); rotate_left; focus (first | omega | (simp; done) | (simp; omega))) | ((with_reducible refine Below.trans ?_ (Below.mono hbz ?_)); rotate_left; focus (first | omega | (simp; done) | (simp; omega))) | ((with_reducible refine Below.trans ?_ (Below.mono hb5 ?_)); rotate_left; focus (first | omega | (simp; done) | (simp; omega))) | ((with_reducible refine Below.trans ?_ (Below.mono hb6 ?_)); rotate_left; focus (first | omega | (simp; done) | (simp; omega))) | ((with_reducible refine Below.trans ?_ (Below.mono hb9 ?_)); rotate_left; focus (first | omega | (simp; done) | (simp; omega)))))
            have HFIN := Lib.hid hfin; clear hfin; have HM9 := Lib.hid hm9; clear hm9; have HI5 := Lib.hid hi5; clear hi5; have HM5 := Lib.hid hm5; clear hm5; have HM6 := Lib.hid hm6; clear hm6
            go_wp2_with fail
            go_ret2
            exact ⟨a9, cap9, ms5 ++ [bndM s xa6 xc6 x k n], by rw [HNO.out, hml]; rfl, by rw [addTo_yes HNO.out]; exact HFIN.out, by exact HM9.out.mono (by omega), hbf⟩
      · have hm1000 : (1000 : Int) ≤ (ms.length : Int) := by rw [HL.out]; omega
        have hno : addOk ds s x k n = false := by simp [addOk, h1000]
        have HK := Lib.hid hK; clear hK; have HA := Lib.hid hA; clear hA; have HNO := Lib.hid hno; clear hno
        go_wp2_with fail
        refine (copyBindings_calls ds a cap ms _ hB HI.out (HIN.out.below (by (repeat (first | with_reducible assumption | with_reducible exact Below.refl _ _ | with_reducible refine Below.drew ?_ | with_reducible refine belowDrewN ?_ _ | ((with_reducible refine Below.setCell ?_ ?_ _); rotate_left; focus (first | omega | (simp; done) | (simp; omega))) | ((with_reducible refine Below.alloc ?_ ?_ _); rotate_left; focus (first | omega | (simp; done) | (simp; omega))) | ((with_reducible refine Below.trans ?_ (Below.mono hb1 ?_)); rotate_left; focus (first | omega | (simp; done) | (simp; omega))) | ((with_reducible refine Below.trans ?_ (Below.mono hb2 ?_)); rotate_left; focus (first | omega | (simp; done) | (simp; omega)))))))).mono ?_
        rintro e w3 ⟨a2, cap2, ms2, rfl, hi2, hm2, hb3⟩
        have HI2 := Lib.hid hi2; clear hi2; have HM2 := Lib.hid hm2; clear hm2
        go_wp2_with fail
        go_ret2
        exact ⟨a2, cap2, ms2, by rw [HNO.out]; rfl, by rw [addTo_no HNO.out]; exact HI2.out, by (exact M.Mine.mono (M.Mine.keep HM2.out (fun b hb1 hb2 => by (try simp at hb1); simp (disch := (first | omega | (simp; omega))) only [heapSet, heapNew, heapDrew, heapDrewN])) (by first | omega | (simp; done) | (simp; omega))), by (repeat (first | with_reducible assumption | with_reducible exact Below.refl _ _ | with_reducible refine Below.drew ?_ | with_reducible refine belowDrewN ?_ _ | ((with_reducible refine Below.setCell ?_ ?_ _); rotate_left; focus (first | omega | (simp; done) | (simp; omega))) | ((with_reducible refine Below.alloc ?_ ?_ _); rotate_left; focus (first | omega | (simp; done) | (simp; omega))) | ((with_reducible refine Below.trans ?_ (Below.mono hb1 ?_)); rotate_left; focus (first | omega | (simp; done) | (simp; omega))) | ((with_reducible refine Below.trans ?_ (Below.mono hb2 ?_)); rotate_left; focus (first | omega | (simp; done) | (simp; omega))) | ((with_reducible refine Below.trans ?_ (Below.mono hb3 ?_)); rotate_left; focus (first | omega | (simp; done) | (simp; omega)))))⟩
end Go.Proofs.Ytkofpfcbjfkdpaa
