/-
  Walks: the law's own measure of syntax. No condition.
-/
import Derived.Test.YtigmgfinjapchaaSyn
import Derived.Test.YtigmgfinjapchaaD2
set_option linter.unusedVariables false
set_option linter.unusedSimpArgs false
set_option maxRecDepth 100000
namespace Go.Proofs.Ytigmgfinjapchaa
open Go.RowKit

theorem szIntS_calls (a : Option Addr) (cap n : Nat) (left : Int) (w : World) (h0 : 0 ≤ left) (h1 : left ≤ 1048576) (hn : n ≤ 9223372036854775807) :
    Calls Try.prog 120 #[.slice a n cap, .int .i64 left] w (SzPost n left w) := by
  by_cases hs : left - (n : Int) < 0
  · go_enter Try.func120, Try.ntmps120
    go_wp2_with fail
    go_ret
    exact ⟨-1, rfl, by omega, by omega, by omega, Below.refl _ _⟩
  · go_enter Try.func120, Try.ntmps120
    go_wp2_with fail
    go_ret
    exact ⟨left - n, rfl, by omega, by omega, fun _ => by omega, Below.refl _ _⟩
def SzSs (ds : List Syn) : Prop := ∀ (a : Option Addr) (cap : Nat) (ms : List M) (left : Int) (w : World), 0 ≤ left → left ≤ 1048576 → Syn.wfL ds → Syn.IsL 70 ds ms → (M.sl a cap 5 70 ms).In w →
    Calls Try.prog 121 #[.slice a ms.length cap, .int .i64 left] w (SzPost (ds.length + Syn.wtX ds) left w)

theorem szSyntax_of (ds : List Syn) (H : SzSs ds) (k n : Int) (s : ByteArray) (x : List Int) (xa : Option Addr) (xc : Nat) (a : Option Addr) (cap : Nat) (ms : List M) (left : Int) (w : World) (h0 : 0 ≤ left) (h1 : left ≤ 1048576) (hwf : (Syn.mk k n s x ds).wf)
    (hi : Syn.IsL 70 ds ms) (hx : (M.sl xa xc 1 3 (intM x)).In w) (hin : (M.sl a cap 5 70 ms).In w) :
    Calls Try.prog 86 #[.agg #[.int .i64 k, .int .i64 n, .string s, .slice xa x.length xc, .slice a ms.length cap], .int .i64 left] w (SzPost (Syn.mk k n s x ds).wt left w) := by
  have hs := hwf.2.2.1
  have hwl := hwf.2.2.2.2
  have hxl := Ints.len hx
  have hwt : (Syn.mk k n s x ds).wt = s.size + (x.length + (ds.length + Syn.wtX ds)) := rfl
  have HWF := Lib.hid hwf; clear hwf; have HWL := Lib.hid hwl; clear hwl; have HI := Lib.hid hi; clear hi; have HX := Lib.hid hx; clear hx; have HIN := Lib.hid hin; clear hin; have HWT := Lib.hid hwt; clear hwt; have H_ := Lib.hid H; clear H
  by_cases hn : left - (s.size : Int) < 0
  · go_enter Try.func86, Try.ntmps86
    go_wp2_with fail
    go_ret
    exact ⟨-1, rfl, by omega, by omega, by omega, by (repeat (first | with_reducible assumption | with_reducible exact Below.refl _ _ | with_reducible refine Below.drew ?_ | with_reducible refine belowDrewN ?_ _ | ((with_reducible refine Below.setCell ?_ ?_ _); rotate_left; focus (first | omega | (simp; done) | (simp; omega))) | ((with_reducible refine Below.alloc ?_ ?_ _); rotate_left; focus (first | omega | (simp; done) | (simp; omega)))))⟩
  · go_enter Try.func86, Try.ntmps86
    go_wp2_with fail
    refine (szIntS_calls xa xc x.length _ _ (by omega) (by omega) (by omega)).mono ?_
    rintro e w1 ⟨r, rfl, hr1, hr2, hr3, hb1⟩
    obtain ⟨hc1, hf1⟩ := bcell hb1; have hz1 := hb1.size; (try simp only [World.size_alloc, World.size_setCell, World.size_drew, sizeDrewN] at hz1 hc1 hf1); have hp1_0 : w.heap.size < w1.heap.size := (by omega)
    by_cases hr : r < 0
    · go_wp2_with fail
      go_ret
      exact ⟨-1, rfl, by omega, by omega, by omega, by (repeat (first | with_reducible assumption | with_reducible exact Below.refl _ _ | with_reducible refine Below.drew ?_ | with_reducible refine belowDrewN ?_ _ | ((with_reducible refine Below.setCell ?_ ?_ _); rotate_left; focus (first | omega | (simp; done) | (simp; omega))) | ((with_reducible refine Below.alloc ?_ ?_ _); rotate_left; focus (first | omega | (simp; done) | (simp; omega))) | ((with_reducible refine Below.trans ?_ (Below.mono hb1 ?_)); rotate_left; focus (first | omega | (simp; done) | (simp; omega)))))⟩
    · have hq3 := hr3 (by omega)
      have HR3 := Lib.hid hr3; clear hr3
      go_wp2_with fail
      refine (H_.out a cap ms _ _ (by omega) (by omega) HWL.out HI.out (HIN.out.below (by (repeat (first | with_reducible assumption | with_reducible exact Below.refl _ _ | with_reducible refine Below.drew ?_ | with_reducible refine belowDrewN ?_ _ | ((with_reducible refine Below.setCell ?_ ?_ _); rotate_left; focus (first | omega | (simp; done) | (simp; omega))) | ((with_reducible refine Below.alloc ?_ ?_ _); rotate_left; focus (first | omega | (simp; done) | (simp; omega))) | ((with_reducible refine Below.trans ?_ (Below.mono hb1 ?_)); rotate_left; focus (first | omega | (simp; done) | (simp; omega)))))))).mono ?_
      rintro e w2 ⟨r', rfl, hr1', hr2', hr3', hb2⟩
      have HR3' := Lib.hid hr3'; clear hr3'
      by_cases hr' : r' < 0
      · go_wp2_with fail
        go_ret
        exact ⟨-1, rfl, by omega, by omega, by omega, by (repeat (first | with_reducible assumption | with_reducible exact Below.refl _ _ | with_reducible refine Below.drew ?_ | with_reducible refine belowDrewN ?_ _ | ((with_reducible refine Below.setCell ?_ ?_ _); rotate_left; focus (first | omega | (simp; done) | (simp; omega))) | ((with_reducible refine Below.alloc ?_ ?_ _); rotate_left; focus (first | omega | (simp; done) | (simp; omega))) | ((with_reducible refine Below.trans ?_ (Below.mono hb1 ?_)); rotate_left; focus (first | omega | (simp; done) | (simp; omega))) | ((with_reducible refine Below.trans ?_ (Below.mono hb2 ?_)); rotate_left; focus (first | omega | (simp; done) | (simp; omega)))))⟩
      · go_wp2_with fail
        go_ret
        exact ⟨r', rfl, by omega, by omega, fun _ => by have := HR3'.out (by omega); rw [HWT.out]; push_cast; omega, by (repeat (first | with_reducible assumption | with_reducible exact Below.refl _ _ | with_reducible refine Below.drew ?_ | with_reducible refine belowDrewN ?_ _ | ((with_reducible refine Below.setCell ?_ ?_ _); rotate_left; focus (first | omega | (simp; done) | (simp; omega))) | ((with_reducible refine Below.alloc ?_ ?_ _); rotate_left; focus (first | omega | (simp; done) | (simp; omega))) | ((with_reducible refine Below.trans ?_ (Below.mono hb1 ?_)); rotate_left; focus (first | omega | (simp; done) | (simp; omega))) | ((with_reducible refine Below.trans ?_ (Below.mono hb2 ?_)); rotate_left; focus (first | omega | (simp; done) | (simp; omega)))))⟩

theorem szSyntaxS_calls : ∀ ds, SzSs ds := by
  refine Syn.inductL fun ds ih => ?_
  intro a cap ms left w h0 h1 hwf hi hin
  have hln := hi.length
  have hcapm := hin.len
  have IH := Lib.hid ih; clear ih; have HIN := Lib.hid hin; clear hin; have HI := Lib.hid hi; clear hi; have HWF := Lib.hid hwf; clear hwf; have HLN := Lib.hid hln; clear hln
  by_cases hn : left - (ms.length : Int) < 0
  · go_enter Try.func121, Try.ntmps121
    go_wp2_with fail
    go_ret
    exact ⟨-1, rfl, by omega, by omega, by omega, Below.refl _ _⟩
  · go_enter Try.func121, Try.ntmps121
    go_wp2_with fail
    go_loopw [1, 5] (fun t i wr => ∃ (k : Nat) (r : Int), k ≤ ms.length ∧ i = .int .i64 k ∧ t = .int .i64 r ∧ 0 ≤ r ∧ r + (Syn.wtX (ds.take k) : Int) ≤ left - (ms.length : Int) ∧ Below w.heap.size w wr ∧ w.heap.size ≤ wr.heap.size) (fun _ i _ => ms.length - (intOf i).toNat)
    case atStart => exact ⟨0, _, Nat.zero_le _, rfl, rfl, by omega, by simp [Syn.wtX], Below.refl _ _, Nat.le_refl _⟩
    case round =>
      obtain ⟨k', r, hk, rfl, rfl, hr0, hr, hb, hsz⟩ := hrel
      by_cases hlt : k' < ms.length
      · obtain ⟨b, off, k1, n1, s1, x1, ds1, xa1, xc1, a1, cap1, ms1, rfl, hd, hi1, hx1, hin1, c0, c1, c2, c3, c4⟩ := Syn.elem (HIN.out.below hb) HI.out k' hlt
        have ht := Syn.wtX_take hd
        have hrl : r ≤ 1048576 := by omega
        have HI1 := Lib.hid hi1; clear hi1; have HIN1 := Lib.hid hin1; clear hin1; have HT := Lib.hid ht; clear ht; have HD := Lib.hid hd; clear hd; have HR := Lib.hid hr; clear hr; have HX1 := Lib.hid hx1; clear hx1
        go_wp2_with fail
        refine (szSyntax_of ds1 (IH.out k1 n1 s1 x1 ds1 (List.mem_of_getElem? HD.out)) k1 n1 s1 x1 xa1 xc1 a1 cap1 ms1 _ _ hr0 hrl (Syn.wfL_get HWF.out HD.out) HI1.out HX1.out HIN1.out).mono ?_
        rintro e w1 ⟨r1, rfl, hr1, hr2, hr3, hb1⟩
        have HR3 := Lib.hid hr3; clear hr3
        have hz1 := hb1.size
        by_cases hr : r1 < 0
        · go_wp2_with fail
          go_ret
          exact ⟨-1, rfl, by omega, by omega, by omega, by (repeat (first | with_reducible assumption | with_reducible exact Below.refl _ _ | with_reducible refine Below.drew ?_ | with_reducible refine belowDrewN ?_ _ | ((with_reducible refine Below.setCell ?_ ?_ _); rotate_left; focus (first | omega | (simp; done) | (simp; omega))) | ((with_reducible refine Below.alloc ?_ ?_ _); rotate_left; focus (first | omega | (simp; done) | (simp; omega))) | ((with_reducible refine Below.trans ?_ (Below.mono hb1 ?_)); rotate_left; focus (first | omega | (simp; done) | (simp; omega)))))⟩
        · go_wp2_with fail
          go_roundw
          case rel => exact ⟨k' + 1, r1, by omega, by go_num, rfl, by omega, by have := HR3.out (by omega); have := HR.out; rw [HT.out]; push_cast; omega, by (repeat (first | with_reducible assumption | with_reducible exact Below.refl _ _ | with_reducible refine Below.drew ?_ | with_reducible refine belowDrewN ?_ _ | ((with_reducible refine Below.setCell ?_ ?_ _); rotate_left; focus (first | omega | (simp; done) | (simp; omega))) | ((with_reducible refine Below.alloc ?_ ?_ _); rotate_left; focus (first | omega | (simp; done) | (simp; omega))) | ((with_reducible refine Below.trans ?_ (Below.mono hb1 ?_)); rotate_left; focus (first | omega | (simp; done) | (simp; omega))))), by omega⟩
          case measure => simp [intOf]; omega
      · go_wp2
        go_ret
        have hk2 : k' = ms.length := by omega
        subst hk2
        rw [HLN.out, List.take_length] at hr
        exact ⟨r, rfl, by omega, by omega, fun _ => by push_cast; omega, hb⟩
theorem szSyntax_w (ds : List Syn) (k n : Int) (s : ByteArray) (x : List Int) (xa : Option Addr) (xc : Nat) (a : Option Addr) (cap : Nat) (ms : List M) (left : Int) (w : World) (h0 : 0 ≤ left) (h1 : left ≤ 1048576) (hwf : (Syn.mk k n s x ds).wf)
    (hi : Syn.IsL 70 ds ms) (hin : (SynOwn 70 xa xc x a cap ms).In w) :
    Calls Try.prog 86 #[.agg #[.int .i64 k, .int .i64 n, .string s, .slice xa x.length xc, .slice a ms.length cap], .int .i64 left] w (SzPost (Syn.mk k n s x ds).wt left w) :=
  szSyntax_of ds (szSyntaxS_calls ds) k n s x xa xc a cap ms left w h0 h1 hwf hi (SynIn_x hin) (SynIn_ms hin)
end Go.Proofs.Ytigmgfinjapchaa
