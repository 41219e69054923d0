/-
  Walks: the law's own measure of data; data compared. No condition.
-/
import Derived.Test.YtoflfamfhpijcaaDoorD1
set_option linter.unusedVariables false
set_option linter.unusedSimpArgs false
set_option maxRecDepth 100000
namespace Go.Proofs.YtoflfamfhpijcaaDoor
open Go.RowKit

/-- A measure that counts down: what it hands back is below what it was handed by at least the weight, or it is -1. -/
def SzPost (wt : Nat) (left : Int) (w : World) (e : Ending) (w' : World) : Prop :=
  ∃ r : Int, e = .returned (.int .i64 r) ∧ -1 ≤ r ∧ r ≤ left ∧ (0 ≤ r → (wt : Int) + r ≤ left) ∧ Below w.heap.size w w'

def SzDs (ds : List Dat) : Prop := ∀ (a : Option Addr) (cap : Nat) (ms : List M) (left : Int) (w : World), 0 ≤ left → left ≤ 1048576 → Dat.wfL ds → Dat.IsL 50 ds ms → (M.sl a cap 4 50 ms).In w →
    Calls Tryd.prog 34 #[.slice a ms.length cap, .int .i64 left] w (SzPost (ds.length + Dat.wtX ds) left w)

theorem szDatum_of (ds : List Dat) (H : SzDs ds) (k n : Int) (s : ByteArray) (a : Option Addr) (cap : Nat) (ms : List M) (left : Int) (w : World) (h0 : 0 ≤ left) (h1 : left ≤ 1048576) (hwf : (Dat.mk k n s ds).wf)
    (hi : Dat.IsL 50 ds ms) (hin : (M.sl a cap 4 50 ms).In w) :
    Calls Tryd.prog 29 #[.agg #[.int .i64 k, .int .i64 n, .string s, .slice a ms.length cap], .int .i64 left] w (SzPost (Dat.mk k n s ds).wt left w) := by
  have hs := hwf.2.2.1
  have hwl := hwf.2.2.2
  have hwt : (Dat.mk k n s ds).wt = s.size + (ds.length + Dat.wtX ds) := rfl
  have HWF := Lib.hid hwf; clear hwf; have HWL := Lib.hid hwl; clear hwl; have HI := Lib.hid hi; clear hi; have HIN := Lib.hid hin; clear hin; have HWT := Lib.hid hwt; clear hwt; have H_ := Lib.hid H; clear H
  by_cases hn : left - (s.size : Int) < 0
  · go_enter Tryd.func29, Tryd.ntmps29
    go_wp2_with fail
    go_ret
    exact ⟨-1, rfl, by omega, by omega, by omega, by (repeat (first | with_reducible assumption | with_reducible exact Below.refl _ _ | with_reducible refine Below.drew ?_ | with_reducible refine belowDrewN ?_ _ | ((with_reducible refine Below.setCell ?_ ?_ _); rotate_left; focus (first | omega | (simp; done) | (simp; omega))) | ((with_reducible refine Below.alloc ?_ ?_ _); rotate_left; focus (first | omega | (simp; done) | (simp; omega)))))⟩
  · go_enter Tryd.func29, Tryd.ntmps29
    go_wp2_with fail
    refine (H_.out a cap ms _ _ (by omega) (by omega) HWL.out HI.out (HIN.out.below (by (repeat (first | with_reducible assumption | with_reducible exact Below.refl _ _ | with_reducible refine Below.drew ?_ | with_reducible refine belowDrewN ?_ _ | ((with_reducible refine Below.setCell ?_ ?_ _); rotate_left; focus (first | omega | (simp; done) | (simp; omega))) | ((with_reducible refine Below.alloc ?_ ?_ _); rotate_left; focus (first | omega | (simp; done) | (simp; omega)))))))).mono ?_
    rintro e w1 ⟨r, rfl, hr1, hr2, hr3, hb1⟩
    have HR3 := Lib.hid hr3; clear hr3
    by_cases hr : r < 0
    · go_wp2_with fail
      go_ret
      exact ⟨-1, rfl, by omega, by omega, by omega, by (repeat (first | with_reducible assumption | with_reducible exact Below.refl _ _ | with_reducible refine Below.drew ?_ | with_reducible refine belowDrewN ?_ _ | ((with_reducible refine Below.setCell ?_ ?_ _); rotate_left; focus (first | omega | (simp; done) | (simp; omega))) | ((with_reducible refine Below.alloc ?_ ?_ _); rotate_left; focus (first | omega | (simp; done) | (simp; omega))) | ((with_reducible refine Below.trans ?_ (Below.mono hb1 ?_)); rotate_left; focus (first | omega | (simp; done) | (simp; omega)))))⟩
    · go_wp2_with fail
      go_ret
      exact ⟨r, rfl, by omega, by omega, fun _ => by have := HR3.out (by omega); rw [HWT.out]; push_cast; omega, by (repeat (first | with_reducible assumption | with_reducible exact Below.refl _ _ | with_reducible refine Below.drew ?_ | with_reducible refine belowDrewN ?_ _ | ((with_reducible refine Below.setCell ?_ ?_ _); rotate_left; focus (first | omega | (simp; done) | (simp; omega))) | ((with_reducible refine Below.alloc ?_ ?_ _); rotate_left; focus (first | omega | (simp; done) | (simp; omega))) | ((with_reducible refine Below.trans ?_ (Below.mono hb1 ?_)); rotate_left; focus (first | omega | (simp; done) | (simp; omega)))))⟩

theorem szDatumS_calls : ∀ ds, SzDs ds := by
  refine Dat.inductL fun ds ih => ?_
  intro a cap ms left w h0 h1 hwf hi hin
  have hln := hi.length
  have hcapm := hin.len
  have IH := Lib.hid ih; clear ih; have HIN := Lib.hid hin; clear hin; have HI := Lib.hid hi; clear hi; have HWF := Lib.hid hwf; clear hwf; have HLN := Lib.hid hln; clear hln
  by_cases hn : left - (ms.length : Int) < 0
  · go_enter Tryd.func34, Tryd.ntmps34
    go_wp2_with fail
    go_ret
    exact ⟨-1, rfl, by omega, by omega, by omega, Below.refl _ _⟩
  · go_enter Tryd.func34, Tryd.ntmps34
    go_wp2_with fail
    go_loopw [1, 5] (fun t i wr => ∃ (k : Nat) (r : Int), k ≤ ms.length ∧ i = .int .i64 k ∧ t = .int .i64 r ∧ 0 ≤ r ∧ r + (Dat.wtX (ds.take k) : Int) ≤ left - (ms.length : Int) ∧ Below w.heap.size w wr ∧ w.heap.size ≤ wr.heap.size) (fun _ i _ => ms.length - (intOf i).toNat)
    case atStart => exact ⟨0, _, Nat.zero_le _, rfl, rfl, by omega, by simp [Dat.wtX], Below.refl _ _, Nat.le_refl _⟩
    case round =>
      obtain ⟨k', r, hk, rfl, rfl, hr0, hr, hb, hsz⟩ := hrel
      by_cases hlt : k' < ms.length
      · obtain ⟨b, off, k1, n1, s1, ds1, a1, cap1, ms1, rfl, hd, hi1, hin1, c0, c1, c2, c3⟩ := Dat.elem (HIN.out.below hb) HI.out k' hlt
        have ht := Dat.wtX_take hd
        have hrl : r ≤ 1048576 := by omega
        have HI1 := Lib.hid hi1; clear hi1; have HIN1 := Lib.hid hin1; clear hin1; have HT := Lib.hid ht; clear ht; have HD := Lib.hid hd; clear hd; have HR := Lib.hid hr; clear hr
        go_wp2_with fail
        refine (szDatum_of ds1 (IH.out k1 n1 s1 ds1 (List.mem_of_getElem? HD.out)) k1 n1 s1 a1 cap1 ms1 _ _ hr0 hrl (Dat.wfL_get HWF.out HD.out) HI1.out HIN1.out).mono ?_
        rintro e w1 ⟨r1, rfl, hr1, hr2, hr3, hb1⟩
        have HR3 := Lib.hid hr3; clear hr3
        have hz1 := hb1.size
        by_cases hr : r1 < 0
        · go_wp2_with fail
          go_ret
          exact ⟨-1, rfl, by omega, by omega, by omega, by (repeat (first | with_reducible assumption | with_reducible exact Below.refl _ _ | with_reducible refine Below.drew ?_ | with_reducible refine belowDrewN ?_ _ | ((with_reducible refine Below.setCell ?_ ?_ _); rotate_left; focus (first | omega | (simp; done) | (simp; omega))) | ((with_reducible refine Below.alloc ?_ ?_ _); rotate_left; focus (first | omega | (simp; done) | (simp; omega))) | ((with_reducible refine Below.trans ?_ (Below.mono hb1 ?_)); rotate_left; focus (first | omega | (simp; done) | (simp; omega)))))⟩
        · go_wp2_with fail
          go_roundw
          case rel => exact ⟨k' + 1, r1, by omega, by go_num, rfl, by omega, by have := HR3.out (by omega); have := HR.out; rw [HT.out]; push_cast; omega, by (repeat (first | with_reducible assumption | with_reducible exact Below.refl _ _ | with_reducible refine Below.drew ?_ | with_reducible refine belowDrewN ?_ _ | ((with_reducible refine Below.setCell ?_ ?_ _); rotate_left; focus (first | omega | (simp; done) | (simp; omega))) | ((with_reducible refine Below.alloc ?_ ?_ _); rotate_left; focus (first | omega | (simp; done) | (simp; omega))) | ((with_reducible refine Below.trans ?_ (Below.mono hb1 ?_)); rotate_left; focus (first | omega | (simp; done) | (simp; omega))))), by omega⟩
          case measure => simp [intOf]; omega
      · go_wp2
        go_ret
        have hk2 : k' = ms.length := by omega
        subst hk2
        rw [HLN.out, List.take_length] at hr
        exact ⟨r, rfl, by omega, by omega, fun _ => by push_cast; omega, hb⟩
end Go.Proofs.YtoflfamfhpijcaaDoor
