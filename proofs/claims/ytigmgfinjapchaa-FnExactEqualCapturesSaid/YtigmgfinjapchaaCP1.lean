/-
  Walks: captures measured, copied, compared by the law. No condition.
-/
import Derived.Test.YtigmgfinjapchaaCap
set_option linter.unusedVariables false
set_option linter.unusedSimpArgs false
set_option maxRecDepth 100000
namespace Go.Proofs.Ytigmgfinjapchaa
open Go.RowKit

theorem SynAt.x_in {t : TypeId} {w : World} {k n : Int} {s : ByteArray} {x : List Int} {ds : List Syn} {xa : Option Addr} {xc : Nat} {a : Option Addr} {cap : Nat} {ms : List M} (h : SynAt t w k n s x ds xa xc a cap ms) : (M.sl xa xc 1 3 (intM x)).In w := SynIn_x h.own
theorem SynAt.ms_in {t : TypeId} {w : World} {k n : Int} {s : ByteArray} {x : List Int} {ds : List Syn} {xa : Option Addr} {xc : Nat} {a : Option Addr} {cap : Nat} {ms : List M} (h : SynAt t w k n s x ds xa xc a cap ms) : (M.sl a cap 5 t ms).In w := SynIn_ms h.own
theorem SynAt.at_ {t : TypeId} {w w' : World} {k n : Int} {s : ByteArray} {x : List Int} {ds : List Syn} {xa : Option Addr} {xc : Nat} {a : Option Addr} {cap : Nat} {ms : List M} (h : SynAt t w k n s x ds xa xc a cap ms) (hb : Below w.heap.size w w') : (SynOwn t xa xc x a cap ms).In w' := (h.below hb).own
def SzCs (ds : List Cap) : Prop := ∀ (a : Option Addr) (cap : Nat) (ms : List M) (left : Int) (w : World), 0 ≤ left → left ≤ 1048576 → Cap.wfL ds → Cap.IsL 70 72 ds ms → (M.sl a cap 12 72 ms).In w →
    Calls Try.prog 7 #[.slice a ms.length cap, .int .i64 left] w (SzPost (ds.length + Cap.wtX ds) left w)

theorem szCapture_of (es : List Cap) (H : SzCs es) (k1 n1 : Int) (s1 : ByteArray) (x1 : List Int) (ds1 : List Syn) (xa1 : Option Addr) (xc1 : Nat) (a1 : Option Addr) (cap1 : Nat) (ms1 : List M) (D : Int) (k2 n2 : Int) (s2 : ByteArray) (x2 : List Int) (ds2 : List Syn) (xa2 : Option Addr) (xc2 : Nat) (a2 : Option Addr) (cap2 : Nat) (ms2 : List M) (a3 : Option Addr) (cap3 : Nat) (ms3 : List M) (left : Int) (w : World) (h0 : 0 ≤ left) (h1 : left ≤ 1048576)
    (hwf : (Cap.mk (.mk k1 n1 s1 x1 ds1) D (.mk k2 n2 s2 x2 ds2) es).wf) (hi1 : SynAt 70 w k1 n1 s1 x1 ds1 xa1 xc1 a1 cap1 ms1) (hi2 : SynAt 70 w k2 n2 s2 x2 ds2 xa2 xc2 a2 cap2 ms2) (hi3 : Cap.IsL 70 72 es ms3) (hin3 : (M.sl a3 cap3 12 72 ms3).In w) :
    Calls Try.prog 42 #[.agg #[.int .i64 k1, .int .i64 n1, .string s1, .slice xa1 x1.length xc1, .slice a1 ms1.length cap1, .int .i64 D, .int .i64 k2, .int .i64 n2, .string s2, .slice xa2 x2.length xc2, .slice a2 ms2.length cap2, .slice a3 ms3.length cap3], .int .i64 left] w (SzPost (Cap.mk (.mk k1 n1 s1 x1 ds1) D (.mk k2 n2 s2 x2 ds2) es).wt left w) := by
  obtain ⟨hw1, _, hw2, hw3⟩ := hwf
  have hwt : (Cap.mk (.mk k1 n1 s1 x1 ds1) D (.mk k2 n2 s2 x2 ds2) es).wt = (Syn.mk k1 n1 s1 x1 ds1).wt + ((Syn.mk k2 n2 s2 x2 ds2).wt + (es.length + Cap.wtX es)) := rfl
  have HW1 := Lib.hid hw1; clear hw1; have HW2 := Lib.hid hw2; clear hw2; have HW3 := Lib.hid hw3; clear hw3; have HI1 := Lib.hid hi1; clear hi1; have HI2 := Lib.hid hi2; clear hi2; have HI3 := Lib.hid hi3; clear hi3; have HIN3 := Lib.hid hin3; clear hin3; have HWT := Lib.hid hwt; clear hwt; have H_ := Lib.hid H; clear H
  go_enter Try.func42, Try.ntmps42
  go_wp2_with fail
  refine (szSyntax_w ds1 k1 n1 s1 x1 xa1 xc1 a1 cap1 ms1 _ _ h0 h1 HW1.out HI1.out.is (HI1.out.at_ (by (repeat (first | with_reducible assumption | with_reducible exact Below.refl _ _ | with_reducible refine Below.drew ?_ | with_reducible refine belowDrewN ?_ _ | ((with_reducible refine Below.setCell ?_ ?_ _); rotate_left; focus (first | omega | (simp; done) | (simp; omega))) | ((with_reducible refine Below.alloc ?_ ?_ _); rotate_left; focus (first | omega | (simp; done) | (simp; omega)))))))).mono ?_
  rintro e w1 ⟨r1, rfl, hr1, hr1', hr1'', hb1⟩
  obtain ⟨hc1, hf1⟩ := bcell hb1; have hz1 := hb1.size; (try simp only [World.size_alloc, World.size_setCell, World.size_drew, sizeDrewN] at hz1 hc1 hf1); have hp1_0 : w.heap.size < w1.heap.size := (by omega)
  by_cases hs1 : r1 < 0
  · go_wp2_with fail
    go_ret
    exact ⟨-1, rfl, by omega, by omega, by omega, by (repeat (first | with_reducible assumption | with_reducible exact Below.refl _ _ | with_reducible refine Below.drew ?_ | with_reducible refine belowDrewN ?_ _ | ((with_reducible refine Below.setCell ?_ ?_ _); rotate_left; focus (first | omega | (simp; done) | (simp; omega))) | ((with_reducible refine Below.alloc ?_ ?_ _); rotate_left; focus (first | omega | (simp; done) | (simp; omega))) | ((with_reducible refine Below.trans ?_ (Below.mono hb1 ?_)); rotate_left; focus (first | omega | (simp; done) | (simp; omega)))))⟩
  · have hq1 := hr1'' (by omega)
    clear hr1''
    have HQ1 := Lib.hid hq1; clear hq1
    go_wp2_with fail
    refine (szSyntax_w ds2 k2 n2 s2 x2 xa2 xc2 a2 cap2 ms2 _ _ (by omega) (by omega) HW2.out HI2.out.is (HI2.out.at_ (by (repeat (first | with_reducible assumption | with_reducible exact Below.refl _ _ | with_reducible refine Below.drew ?_ | with_reducible refine belowDrewN ?_ _ | ((with_reducible refine Below.setCell ?_ ?_ _); rotate_left; focus (first | omega | (simp; done) | (simp; omega))) | ((with_reducible refine Below.alloc ?_ ?_ _); rotate_left; focus (first | omega | (simp; done) | (simp; omega))) | ((with_reducible refine Below.trans ?_ (Below.mono hb1 ?_)); rotate_left; focus (first | omega | (simp; done) | (simp; omega)))))))).mono ?_
    rintro e w2 ⟨r2, rfl, hr2, hr2', hr2'', hb2⟩
    obtain ⟨hc2, hf2⟩ := bcell hb2; have hz2 := hb2.size; (try simp only [World.size_alloc, World.size_setCell, World.size_drew, sizeDrewN] at hz2 hc2 hf2); have hp2_0 : w.heap.size < w2.heap.size := (by omega)
    by_cases hs2 : r2 < 0
    · go_wp2_with fail
      go_ret
      exact ⟨-1, rfl, by omega, by omega, by omega, by (repeat (first | with_reducible assumption | with_reducible exact Below.refl _ _ | with_reducible refine Below.drew ?_ | with_reducible refine belowDrewN ?_ _ | ((with_reducible refine Below.setCell ?_ ?_ _); rotate_left; focus (first | omega | (simp; done) | (simp; omega))) | ((with_reducible refine Below.alloc ?_ ?_ _); rotate_left; focus (first | omega | (simp; done) | (simp; omega))) | ((with_reducible refine Below.trans ?_ (Below.mono hb1 ?_)); rotate_left; focus (first | omega | (simp; done) | (simp; omega))) | ((with_reducible refine Below.trans ?_ (Below.mono hb2 ?_)); rotate_left; focus (first | omega | (simp; done) | (simp; omega)))))⟩
    · have hq2 := hr2'' (by omega)
      clear hr2''
      have HQ2 := Lib.hid hq2; clear hq2
      go_wp2_with fail
      refine (H_.out a3 cap3 ms3 _ _ (by omega) (by omega) HW3.out HI3.out (HIN3.out.below (by (repeat (first | with_reducible assumption | with_reducible exact Below.refl _ _ | with_reducible refine Below.drew ?_ | with_reducible refine belowDrewN ?_ _ | ((with_reducible refine Below.setCell ?_ ?_ _); rotate_left; focus (first | omega | (simp; done) | (simp; omega))) | ((with_reducible refine Below.alloc ?_ ?_ _); rotate_left; focus (first | omega | (simp; done) | (simp; omega))) | ((with_reducible refine Below.trans ?_ (Below.mono hb1 ?_)); rotate_left; focus (first | omega | (simp; done) | (simp; omega))) | ((with_reducible refine Below.trans ?_ (Below.mono hb2 ?_)); rotate_left; focus (first | omega | (simp; done) | (simp; omega)))))))).mono ?_
      rintro e w3 ⟨r3, rfl, hr3, hr3', hr3'', hb3⟩
      have HR3'' := Lib.hid hr3''; clear hr3''
      by_cases hs3 : r3 < 0
      · go_wp2_with fail
        go_ret
        exact ⟨-1, rfl, by omega, by omega, by omega, by (repeat (first | with_reducible assumption | with_reducible exact Below.refl _ _ | with_reducible refine Below.drew ?_ | with_reducible refine belowDrewN ?_ _ | ((with_reducible refine Below.setCell ?_ ?_ _); rotate_left; focus (first | omega | (simp; done) | (simp; omega))) | ((with_reducible refine Below.alloc ?_ ?_ _); rotate_left; focus (first | omega | (simp; done) | (simp; omega))) | ((with_reducible refine Below.trans ?_ (Below.mono hb1 ?_)); rotate_left; focus (first | omega | (simp; done) | (simp; omega))) | ((with_reducible refine Below.trans ?_ (Below.mono hb2 ?_)); rotate_left; focus (first | omega | (simp; done) | (simp; omega))) | ((with_reducible refine Below.trans ?_ (Below.mono hb3 ?_)); rotate_left; focus (first | omega | (simp; done) | (simp; omega)))))⟩
      · go_wp2_with fail
        go_ret
        exact ⟨r3, rfl, by omega, by omega, fun _ => by have := HR3''.out (by omega); have := HQ1.out; have := HQ2.out; rw [HWT.out]; push_cast at *; omega, by (repeat (first | with_reducible assumption | with_reducible exact Below.refl _ _ | with_reducible refine Below.drew ?_ | with_reducible refine belowDrewN ?_ _ | ((with_reducible refine Below.setCell ?_ ?_ _); rotate_left; focus (first | omega | (simp; done) | (simp; omega))) | ((with_reducible refine Below.alloc ?_ ?_ _); rotate_left; focus (first | omega | (simp; done) | (simp; omega))) | ((with_reducible refine Below.trans ?_ (Below.mono hb1 ?_)); rotate_left; focus (first | omega | (simp; done) | (simp; omega))) | ((with_reducible refine Below.trans ?_ (Below.mono hb2 ?_)); rotate_left; focus (first | omega | (simp; done) | (simp; omega))) | ((with_reducible refine Below.trans ?_ (Below.mono hb3 ?_)); rotate_left; focus (first | omega | (simp; done) | (simp; omega)))))⟩

theorem szCaptureS_calls : ∀ ds, SzCs ds := by
  refine Cap.inductL fun ds ih => ?_
  intro a cap ms left w h0 h1 hwf hi hin
  have hln := hi.length
  have hcapm := hin.len
  have IH := Lib.hid ih; clear ih; have HIN := Lib.hid hin; clear hin; have HI := Lib.hid hi; clear hi; have HWF := Lib.hid hwf; clear hwf; have HLN := Lib.hid hln; clear hln
  by_cases hn : left - (ms.length : Int) < 0
  · go_enter Try.func7, Try.ntmps7
    go_wp2_with fail
    go_ret
    exact ⟨-1, rfl, by omega, by omega, by omega, Below.refl _ _⟩
  · go_enter Try.func7, Try.ntmps7
    go_wp2_with fail
    go_loopw [1, 5] (fun t i wr => ∃ (k : Nat) (r : Int), k ≤ ms.length ∧ i = .int .i64 k ∧ t = .int .i64 r ∧ 0 ≤ r ∧ r + (Cap.wtX (ds.take k) : Int) ≤ left - (ms.length : Int) ∧ Below w.heap.size w wr ∧ w.heap.size ≤ wr.heap.size) (fun _ i _ => ms.length - (intOf i).toNat)
    case atStart => exact ⟨0, _, Nat.zero_le _, rfl, rfl, by omega, by simp [Cap.wtX], Below.refl _ _, Nat.le_refl _⟩
    case round =>
      obtain ⟨k', r, hk, rfl, rfl, hr0, hr, hb, hsz⟩ := hrel
      by_cases hlt : k' < ms.length
      · obtain ⟨b, off, k1, n1, s1, x1, ds1, xa1, xc1, a1, cap1, ms1, D, k2, n2, s2, x2, ds2, xa2, xc2, a2, cap2, ms2, es, a3, cap3, ms3, rfl, hd, hi1, hi2, hi3, hin3, ⟨c0, c1, c2, c3, c4⟩, c5, ⟨c6, c7, c8, c9, c10⟩, c11⟩ := Cap.elem (HIN.out.below hb) HI.out k' hlt
        have ht := Cap.wtX_take hd
        have hrl : r ≤ 1048576 := by omega
        have HI1 := Lib.hid hi1; clear hi1; have HI2 := Lib.hid hi2; clear hi2; have HI3 := Lib.hid hi3; clear hi3; have HIN3 := Lib.hid hin3; clear hin3; have HT := Lib.hid ht; clear ht; have HD := Lib.hid hd; clear hd; have HR := Lib.hid hr; clear hr
        go_wp2_with fail
        refine (szCapture_of es (IH.out _ D _ es (List.mem_of_getElem? HD.out)) k1 n1 s1 x1 ds1 xa1 xc1 a1 cap1 ms1 D k2 n2 s2 x2 ds2 xa2 xc2 a2 cap2 ms2 a3 cap3 ms3 _ _ hr0 hrl (Cap.wfL_get HWF.out HD.out) HI1.out HI2.out HI3.out HIN3.out).mono ?_
        rintro e w1 ⟨r1, rfl, hr1, hr2, hr3, hb1⟩
        have HR3 := Lib.hid hr3; clear hr3
        have hz1 := hb1.size
        by_cases hr : r1 < 0
        · go_wp2_with fail
          go_ret
          exact ⟨-1, rfl, by omega, by omega, by omega, by (repeat (first | with_reducible assumption | with_reducible exact Below.refl _ _ | with_reducible refine Below.drew ?_ | with_reducible refine belowDrewN ?_ _ | ((with_reducible refine Below.setCell ?_ ?_ _); rotate_left; focus (first | omega | (simp; done) | (simp; omega))) | ((with_reducible refine Below.alloc ?_ ?_ _); rotate_left; focus (first | omega | (simp; done) | (simp; omega))) | ((with_reducible refine Below.trans ?_ (Below.mono hb1 ?_)); rotate_left; focus (first | omega | (simp; done) | (simp; omega)))))⟩
        · go_wp2_with fail
          go_roundw
          case rel => exact ⟨k' + 1, r1, by omega, by go_num, rfl, by omega, by have := HR3.out (by omega); have := HR.out; rw [HT.out]; push_cast; omega, by (repeat (first | with_reducible assumption | with_reducible exact Below.refl _ _ | with_reducible refine Below.drew ?_ | with_reducible refine belowDrewN ?_ _ | ((with_reducible refine Below.setCell ?_ ?_ _); rotate_left; focus (first | omega | (simp; done) | (simp; omega))) | ((with_reducible refine Below.alloc ?_ ?_ _); rotate_left; focus (first | omega | (simp; done) | (simp; omega))) | ((with_reducible refine Below.trans ?_ (Below.mono hb1 ?_)); rotate_left; focus (first | omega | (simp; done) | (simp; omega))))), by omega⟩
          case measure => simp [intOf]; omega
      · go_wp2
        go_ret
        have hk2 : k' = ms.length := by omega
        subst hk2
        rw [HLN.out, List.take_length] at hr
        exact ⟨r, rfl, by omega, by omega, fun _ => by push_cast; omega, hb⟩
end Go.Proofs.Ytigmgfinjapchaa
