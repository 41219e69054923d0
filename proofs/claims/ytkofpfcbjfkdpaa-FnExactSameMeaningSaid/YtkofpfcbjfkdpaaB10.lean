/-
  Walks: SameMeaning. No condition.
-/
import Derived.Test.YtkofpfcbjfkdpaaB9
set_option linter.unusedVariables false
set_option linter.unusedSimpArgs false
set_option maxRecDepth 100000
namespace Go.Proofs.Ytkofpfcbjfkdpaa
open Go.RowKit

set_option maxHeartbeats 4000000 in
theorem iMeaning_calls (ds : List Bnd) (a : Option Addr) (cap : Nat) (ms : List M) (k n : Int) (s : ByteArray) (x : List Int) (xa : Option Addr) (xc : Nat) (ia : Option Addr) (il ic : Nat) (k' n' : Int) (s' : ByteArray) (x' : List Int) (xa' : Option Addr) (xc' : Nat) (ia' : Option Addr) (il' ic' : Nat) (w : World)
    (hB : ds.length + Bnd.wtX ds ≤ 2000000) (hi : Bnd.IsL ds ms) (hin : (M.sl a cap 4 49 ms).In w) (hx : (M.sl xa xc 1 3 (intM x)).In w) (hx' : (M.sl xa' xc' 1 3 (intM x')).In w) :
    Calls Try.prog 117 #[.slice a ms.length cap, .agg #[.int .i64 k, .int .i64 n, .string s, .slice xa x.length xc, .slice ia il ic], .agg #[.int .i64 k', .int .i64 n', .string s', .slice xa' x'.length xc', .slice ia' il' ic']] w (Ret (.bool (meanB s x s' x' ds)) w) := by
  have hcap := hin.len
  have hxl := Ints.len hx
  have hxl' := Ints.len hx'
  have HI := Lib.hid hi; clear hi; have HIN := Lib.hid hin; clear hin; have HX := Lib.hid hx; clear hx; have HX' := Lib.hid hx'; clear hx'
  go_enter Try.func117, Try.ntmps117
  go_wp2_with fail
  refine (lookUp_calls ds a cap ms k n s x xa xc ia il ic _ (by omega) HI.out (HIN.out.below (by (repeat (first | with_reducible assumption | with_reducible exact Below.refl _ _ | with_reducible refine Below.drew ?_ | with_reducible refine belowDrewN ?_ _ | ((with_reducible refine Below.setCell ?_ ?_ _); rotate_left; focus (first | omega | (simp; done) | (simp; omega))) | ((with_reducible refine Below.alloc ?_ ?_ _); rotate_left; focus (first | omega | (simp; done) | (simp; omega))))))) (HX.out.below (by (repeat (first | with_reducible assumption | with_reducible exact Below.refl _ _ | with_reducible refine Below.drew ?_ | with_reducible refine belowDrewN ?_ _ | ((with_reducible refine Below.setCell ?_ ?_ _); rotate_left; focus (first | omega | (simp; done) | (simp; omega))) | ((with_reducible refine Below.alloc ?_ ?_ _); rotate_left; focus (first | omega | (simp; done) | (simp; omega)))))))).mono ?_
  rintro e w1 ⟨xa1, xc1, rfl, hm1, hb1⟩
  have hz1 := hb1.size
  simp only [World.size_alloc] at hz1
  have hq1 : SBox w.heap.size k n s (.slice xa x.length xc) (.slice ia il ic) w1 := ((SBox.new k n s (.slice xa x.length xc) (.slice ia il ic) w).of (heapNew _ _ _ (by simp))).below hb1 (by simp; omega)
  have hr1 : SBox (w.heap.size + 1) k' n' s' (.slice xa' x'.length xc') (.slice ia' il' ic') w1 := by
    have h := (SBox.new k' n' s' (.slice xa' x'.length xc') (.slice ia' il' ic') (w.alloc (.cells #[.int .i64 k, .int .i64 n, .string s, .slice xa x.length xc, .slice ia il ic] 43))).below hb1 (by simp); simpa using h
  have p0 := hq1.lt
  have p1 := hr1.lt
  have hbz : Below w.heap.size w w1 := by (repeat (first | with_reducible assumption | with_reducible exact Below.refl _ _ | with_reducible refine Below.drew ?_ | with_reducible refine belowDrewN ?_ _ | ((with_reducible refine Below.setCell ?_ ?_ _); rotate_left; focus (first | omega | (simp; done) | (simp; omega))) | ((with_reducible refine Below.alloc ?_ ?_ _); rotate_left; focus (first | omega | (simp; done) | (simp; omega))) | ((with_reducible refine Below.trans ?_ (Below.mono hb1 ?_)); rotate_left; focus (first | omega | (simp; done) | (simp; omega)))))
  have hk1 := resB_k s x ds
  obtain ⟨q0, q1, q2, q3, q4, f0, f1, f2, f3, f4⟩ := hq1
  obtain ⟨r0, r1, r2, r3, r4, g0, g1, g2, g3, g4⟩ := hr1
  generalize hR1 : resB s x ds = R1 at *
  obtain ⟨⟨s1, x1, k1, n1⟩, e1⟩ := R1
  simp only [Bnd.s_mk, Bnd.x_mk, Bnd.k_mk, Bnd.n_mk] at *
  have HM1 := Lib.hid hm1; clear hm1; have HR1 := Lib.hid hR1; clear hR1; have HK1 := Lib.hid hk1; clear hk1; have HB1 := Lib.hid hb1; clear hb1
  go_wp2_with fail
  refine (lookUp_calls ds a cap ms k' n' s' x' xa' xc' ia' il' ic' _ (by omega) HI.out (HIN.out.below (by (repeat (first | with_reducible assumption | with_reducible exact Below.refl _ _ | with_reducible refine Below.drew ?_ | with_reducible refine belowDrewN ?_ _ | ((with_reducible refine Below.setCell ?_ ?_ _); rotate_left; focus (first | omega | (simp; done) | (simp; omega))) | ((with_reducible refine Below.alloc ?_ ?_ _); rotate_left; focus (first | omega | (simp; done) | (simp; omega))) | ((with_reducible refine Below.trans ?_ (Below.mono hbz ?_)); rotate_left; focus (first | omega | (simp; done) | (simp; omega))))))) (HX'.out.below (by (repeat (first | with_reducible assumption | with_reducible exact Below.refl _ _ | with_reducible refine Below.drew ?_ | with_reducible refine belowDrewN ?_ _ | ((with_reducible refine Below.setCell ?_ ?_ _); rotate_left; focus (first | omega | (simp; done) | (simp; omega))) | ((with_reducible refine Below.alloc ?_ ?_ _); rotate_left; focus (first | omega | (simp; done) | (simp; omega))) | ((with_reducible refine Below.trans ?_ (Below.mono hbz ?_)); rotate_left; focus (first | omega | (simp; done) | (simp; omega)))))))).mono ?_
  rintro e w2 ⟨xa2, xc2, rfl, hm2, hb2⟩
  have hz2 := hb2.size
  simp only [World.size_alloc] at hz2
  have hq2 : SBox w.heap.size k n s (.slice xa x.length xc) (.slice ia il ic) w2 := (SBox.of ⟨q0, q1, q2, q3, q4, f0, f1, f2, f3, f4⟩ (heapNew _ _ _ p0)).below hb2 (by simp; omega)
  have hr2 : SBox (w.heap.size + 1) k' n' s' (.slice xa' x'.length xc') (.slice ia' il' ic') w2 := (SBox.of ⟨r0, r1, r2, r3, r4, g0, g1, g2, g3, g4⟩ (heapNew _ _ _ p1)).below hb2 (by simp; omega)
  have hy2 : BBox w1.heap.size s1 (.slice xa1 x1.length xc1) k1 n1 w2 := (BBox.new s1 (.slice xa1 x1.length xc1) k1 n1 w1).below hb2 (by simp)
  clear q0 q1 q2 q3 q4 f0 f1 f2 f3 f4 r0 r1 r2 r3 r4 g0 g1 g2 g3 g4
  obtain ⟨q0, q1, q2, q3, q4, f0, f1, f2, f3, f4⟩ := hq2
  obtain ⟨r0, r1, r2, r3, r4, g0, g1, g2, g3, g4⟩ := hr2
  obtain ⟨y0, y1, y2, y3, z0, z1, z2, z3⟩ := hy2
  have p3 : w.heap.size < w2.heap.size := by omega
  have p4 : w.heap.size + 1 < w2.heap.size := by omega
  have p5 : w1.heap.size < w2.heap.size := by omega
  have hbf : Below w.heap.size w w2 := by (repeat (first | with_reducible assumption | with_reducible exact Below.refl _ _ | with_reducible refine Below.drew ?_ | with_reducible refine belowDrewN ?_ _ | ((with_reducible refine Below.setCell ?_ ?_ _); rotate_left; focus (first | omega | (simp; done) | (simp; omega))) | ((with_reducible refine Below.alloc ?_ ?_ _); rotate_left; focus (first | omega | (simp; done) | (simp; omega))) | ((with_reducible refine Below.trans ?_ (Below.mono hbz ?_)); rotate_left; focus (first | omega | (simp; done) | (simp; omega))) | ((with_reducible refine Below.trans ?_ (Below.mono hb2 ?_)); rotate_left; focus (first | omega | (simp; done) | (simp; omega)))))
  have hk2 := resB_k s' x' ds
  generalize hR2 : resB s' x' ds = R2 at *
  obtain ⟨⟨s2, x2, k2, n2⟩, e2⟩ := R2
  simp only [Bnd.s_mk, Bnd.x_mk, Bnd.k_mk, Bnd.n_mk] at *
  have hmean : meanB s x s' x' ds = (if e1 = 1 ∧ e2 = 1 then decide (k1 = k2) && decide (n1 = n2) else decide (e1 = 0) && (decide (e2 = 0) && eqTx s s')) := by
    simp only [meanB, HR1.out, hR2, Bnd.k_mk, Bnd.n_mk]
  have HM2 := Lib.hid hm2; clear hm2; have HR2 := Lib.hid hR2; clear hR2; have HB2 := Lib.hid hb2; clear hb2; have HMEAN := Lib.hid hmean; clear hmean
  have hk1 := HK1.out
  clear HK1
  by_cases hs : s = s'
  · have hss : (s.toList == s'.toList) = true := by rw [hs]; simp
    have hee := eqTx_yes hs
    have HS := Lib.hid hs; clear hs
    by_cases hkk : k1 = k2
    · have hkb : (k1 == k2) = true := by simp [hkk]
      by_cases hnn : n1 = n2
      · have hnb : (n1 == n2) = true := by simp [hnn]
        have HKK := Lib.hid hkk; clear hkk; have HNN := Lib.hid hnn; clear hnn
        rcases hk1 with rfl | rfl | rfl <;> rcases hk2 with rfl | rfl | rfl <;> (go_wp2_with fail; go_ret; exact ⟨ret_b (by rw [HMEAN.out]; simp [HKK.out, HNN.out, hee]), by (repeat (first | with_reducible assumption | with_reducible exact Below.refl _ _ | with_reducible refine Below.drew ?_ | with_reducible refine belowDrewN ?_ _ | ((with_reducible refine Below.setCell ?_ ?_ _); rotate_left; focus (first | omega | (simp; done) | (simp; omega))) | ((with_reducible refine Below.alloc ?_ ?_ _); rotate_left; focus (first | omega | (simp; done) | (simp; omega))) | ((with_reducible refine Below.trans ?_ (Below.mono hbf ?_)); rotate_left; focus (first | omega | (simp; done) | (simp; omega)))))⟩)
      · have hnb : (n1 == n2) = false := by simp [hnn]
        have HKK := Lib.hid hkk; clear hkk; have HNN := Lib.hid hnn; clear hnn
        rcases hk1 with rfl | rfl | rfl <;> rcases hk2 with rfl | rfl | rfl <;> (go_wp2_with fail; go_ret; exact ⟨ret_b (by rw [HMEAN.out]; simp [HKK.out, HNN.out, hee]), by (repeat (first | with_reducible assumption | with_reducible exact Below.refl _ _ | with_reducible refine Below.drew ?_ | with_reducible refine belowDrewN ?_ _ | ((with_reducible refine Below.setCell ?_ ?_ _); rotate_left; focus (first | omega | (simp; done) | (simp; omega))) | ((with_reducible refine Below.alloc ?_ ?_ _); rotate_left; focus (first | omega | (simp; done) | (simp; omega))) | ((with_reducible refine Below.trans ?_ (Below.mono hbf ?_)); rotate_left; focus (first | omega | (simp; done) | (simp; omega)))))⟩)
    · have hkb : (k1 == k2) = false := by simp [hkk]
      have HKK := Lib.hid hkk; clear hkk
      rcases hk1 with rfl | rfl | rfl <;> rcases hk2 with rfl | rfl | rfl <;> (go_wp2_with fail; go_ret; exact ⟨ret_b (by rw [HMEAN.out]; simp [HKK.out, hee]), by (repeat (first | with_reducible assumption | with_reducible exact Below.refl _ _ | with_reducible refine Below.drew ?_ | with_reducible refine belowDrewN ?_ _ | ((with_reducible refine Below.setCell ?_ ?_ _); rotate_left; focus (first | omega | (simp; done) | (simp; omega))) | ((with_reducible refine Below.alloc ?_ ?_ _); rotate_left; focus (first | omega | (simp; done) | (simp; omega))) | ((with_reducible refine Below.trans ?_ (Below.mono hbf ?_)); rotate_left; focus (first | omega | (simp; done) | (simp; omega)))))⟩)
  · have hss := ba_ne hs
    have hee := eqTx_no hs
    have HS := Lib.hid hs; clear hs
    by_cases hkk : k1 = k2
    · have hkb : (k1 == k2) = true := by simp [hkk]
      by_cases hnn : n1 = n2
      · have hnb : (n1 == n2) = true := by simp [hnn]
        have HKK := Lib.hid hkk; clear hkk; have HNN := Lib.hid hnn; clear hnn
        rcases hk1 with rfl | rfl | rfl <;> rcases hk2 with rfl | rfl | rfl <;> (go_wp2_with fail; go_ret; exact ⟨ret_b (by rw [HMEAN.out]; simp [HKK.out, HNN.out, hee]), by (repeat (first | with_reducible assumption | with_reducible exact Below.refl _ _ | with_reducible refine Below.drew ?_ | with_reducible refine belowDrewN ?_ _ | ((with_reducible refine Below.setCell ?_ ?_ _); rotate_left; focus (first | omega | (simp; done) | (simp; omega))) | ((with_reducible refine Below.alloc ?_ ?_ _); rotate_left; focus (first | omega | (simp; done) | (simp; omega))) | ((with_reducible refine Below.trans ?_ (Below.mono hbf ?_)); rotate_left; focus (first | omega | (simp; done) | (simp; omega)))))⟩)
      · have hnb : (n1 == n2) = false := by simp [hnn]
        have HKK := Lib.hid hkk; clear hkk; have HNN := Lib.hid hnn; clear hnn
        rcases hk1 with rfl | rfl | rfl <;> rcases hk2 with rfl | rfl | rfl <;> (go_wp2_with fail; go_ret; exact ⟨ret_b (by rw [HMEAN.out]; simp [HKK.out, HNN.out, hee]), by (repeat (first | with_reducible assumption | with_reducible exact Below.refl _ _ | with_reducible refine Below.drew ?_ | with_reducible refine belowDrewN ?_ _ | ((with_reducible refine Below.setCell ?_ ?_ _); rotate_left; focus (first | omega | (simp; done) | (simp; omega))) | ((with_reducible refine Below.alloc ?_ ?_ _); rotate_left; focus (first | omega | (simp; done) | (simp; omega))) | ((with_reducible refine Below.trans ?_ (Below.mono hbf ?_)); rotate_left; focus (first | omega | (simp; done) | (simp; omega)))))⟩)
    · have hkb : (k1 == k2) = false := by simp [hkk]
      have HKK := Lib.hid hkk; clear hkk
      rcases hk1 with rfl | rfl | rfl <;> rcases hk2 with rfl | rfl | rfl <;> (go_wp2_with fail; go_ret; exact ⟨ret_b (by rw [HMEAN.out]; simp [HKK.out, hee]), by (repeat (first | with_reducible assumption | with_reducible exact Below.refl _ _ | with_reducible refine Below.drew ?_ | with_reducible refine belowDrewN ?_ _ | ((with_reducible refine Below.setCell ?_ ?_ _); rotate_left; focus (first | omega | (simp; done) | (simp; omega))) | ((with_reducible refine Below.alloc ?_ ?_ _); rotate_left; focus (first | omega | (simp; done) | (simp; omega))) | ((with_reducible refine Below.trans ?_ (Below.mono hbf ?_)); rotate_left; focus (first | omega | (simp; done) | (simp; omega)))))⟩)
set_option maxHeartbeats 4000000 in
theorem sMeaning_calls (ds : List Bnd) (a : Option Addr) (cap : Nat) (ms : List M) (k n : Int) (s : ByteArray) (x : List Int) (xa : Option Addr) (xc : Nat) (ia : Option Addr) (il ic : Nat) (k' n' : Int) (s' : ByteArray) (x' : List Int) (xa' : Option Addr) (xc' : Nat) (ia' : Option Addr) (il' ic' : Nat) (w : World)
    (hB : ds.length + Bnd.wtX ds ≤ 2000000) (hi : Bnd.IsL ds ms) (hin : (M.sl a cap 4 49 ms).In w) (hx : (M.sl xa xc 1 3 (intM x)).In w) (hx' : (M.sl xa' xc' 1 3 (intM x')).In w) :
    Calls Try.prog 150 #[.slice a ms.length cap, .agg #[.int .i64 k, .int .i64 n, .string s, .slice xa x.length xc, .slice ia il ic], .agg #[.int .i64 k', .int .i64 n', .string s', .slice xa' x'.length xc', .slice ia' il' ic']] w (Ret (.bool (meanB s x s' x' ds)) w) := by
  have hcap := hin.len
  have hxl := Ints.len hx
  have hxl' := Ints.len hx'
  have HI := Lib.hid hi; clear hi; have HIN := Lib.hid hin; clear hin; have HX := Lib.hid hx; clear hx; have HX' := Lib.hid hx'; clear hx'
  go_enter Try.func150, Try.ntmps150
  go_wp2_with fail
  refine (l3Resolve_calls ds a cap ms k n s x xa xc ia il ic _ (by omega) HI.out (HIN.out.below (by (repeat (first | with_reducible assumption | with_reducible exact Below.refl _ _ | with_reducible refine Below.drew ?_ | with_reducible refine belowDrewN ?_ _ | ((with_reducible refine Below.setCell ?_ ?_ _); rotate_left; focus (first | omega | (simp; done) | (simp; omega))) | ((with_reducible refine Below.alloc ?_ ?_ _); rotate_left; focus (first | omega | (simp; done) | (simp; omega))))))) (HX.out.below (by (repeat (first | with_reducible assumption | with_reducible exact Below.refl _ _ | with_reducible refine Below.drew ?_ | with_reducible refine belowDrewN ?_ _ | ((with_reducible refine Below.setCell ?_ ?_ _); rotate_left; focus (first | omega | (simp; done) | (simp; omega))) | ((with_reducible refine Below.alloc ?_ ?_ _); rotate_left; focus (first | omega | (simp; done) | (simp; omega)))))))).mono ?_
  rintro e w1 ⟨xa1, xc1, rfl, hm1, hb1⟩
  have hz1 := hb1.size
  simp only [World.size_alloc] at hz1
  have hq1 : SBox w.heap.size k n s (.slice xa x.length xc) (.slice ia il ic) w1 := ((SBox.new k n s (.slice xa x.length xc) (.slice ia il ic) w).of (heapNew _ _ _ (by simp))).below hb1 (by simp; omega)
  have hr1 : SBox (w.heap.size + 1) k' n' s' (.slice xa' x'.length xc') (.slice ia' il' ic') w1 := by
    have h := (SBox.new k' n' s' (.slice xa' x'.length xc') (.slice ia' il' ic') (w.alloc (.cells #[.int .i64 k, .int .i64 n, .string s, .slice xa x.length xc, .slice ia il ic] 43))).below hb1 (by simp); simpa using h
  have p0 := hq1.lt
  have p1 := hr1.lt
  have hbz : Below w.heap.size w w1 := by (repeat (first | with_reducible assumption | with_reducible exact Below.refl _ _ | with_reducible refine Below.drew ?_ | with_reducible refine belowDrewN ?_ _ | ((with_reducible refine Below.setCell ?_ ?_ _); rotate_left; focus (first | omega | (simp; done) | (simp; omega))) | ((with_reducible refine Below.alloc ?_ ?_ _); rotate_left; focus (first | omega | (simp; done) | (simp; omega))) | ((with_reducible refine Below.trans ?_ (Below.mono hb1 ?_)); rotate_left; focus (first | omega | (simp; done) | (simp; omega)))))
  have hk1 := resB_k s x ds
  obtain ⟨q0, q1, q2, q3, q4, f0, f1, f2, f3, f4⟩ := hq1
  obtain ⟨r0, r1, r2, r3, r4, g0, g1, g2, g3, g4⟩ := hr1
  generalize hR1 : resB s x ds = R1 at *
  obtain ⟨⟨s1, x1, k1, n1⟩, e1⟩ := R1
  simp only [Bnd.s_mk, Bnd.x_mk, Bnd.k_mk, Bnd.n_mk] at *
  have HM1 := Lib.hid hm1; clear hm1; have HR1 := Lib.hid hR1; clear hR1; have HK1 := Lib.hid hk1; clear hk1; have HB1 := Lib.hid hb1; clear hb1
  go_wp2_with fail
  refine (l3Resolve_calls ds a cap ms k' n' s' x' xa' xc' ia' il' ic' _ (by omega) HI.out (HIN.out.below (by (repeat (first | with_reducible assumption | with_reducible exact Below.refl _ _ | with_reducible refine Below.drew ?_ | with_reducible refine belowDrewN ?_ _ | ((with_reducible refine Below.setCell ?_ ?_ _); rotate_left; focus (first | omega | (simp; done) | (simp; omega))) | ((with_reducible refine Below.alloc ?_ ?_ _); rotate_left; focus (first | omega | (simp; done) | (simp; omega))) | ((with_reducible refine Below.trans ?_ (Below.mono hbz ?_)); rotate_left; focus (first | omega | (simp; done) | (simp; omega))))))) (HX'.out.below (by (repeat (first | with_reducible assumption | with_reducible exact Below.refl _ _ | with_reducible refine Below.drew ?_ | with_reducible refine belowDrewN ?_ _ | ((with_reducible refine Below.setCell ?_ ?_ _); rotate_left; focus (first | omega | (simp; done) | (simp; omega))) | ((with_reducible refine Below.alloc ?_ ?_ _); rotate_left; focus (first | omega | (simp; done) | (simp; omega))) | ((with_reducible refine Below.trans ?_ (Below.mono hbz ?_)); rotate_left; focus (first | omega | (simp; done) | (simp; omega)))))))).mono ?_
  rintro e w2 ⟨xa2, xc2, rfl, hm2, hb2⟩
  have hz2 := hb2.size
  simp only [World.size_alloc] at hz2
  have hq2 : SBox w.heap.size k n s (.slice xa x.length xc) (.slice ia il ic) w2 := (SBox.of ⟨q0, q1, q2, q3, q4, f0, f1, f2, f3, f4⟩ (heapNew _ _ _ p0)).below hb2 (by simp; omega)
  have hr2 : SBox (w.heap.size + 1) k' n' s' (.slice xa' x'.length xc') (.slice ia' il' ic') w2 := (SBox.of ⟨r0, r1, r2, r3, r4, g0, g1, g2, g3, g4⟩ (heapNew _ _ _ p1)).below hb2 (by simp; omega)
  have hy2 : BBox w1.heap.size s1 (.slice xa1 x1.length xc1) k1 n1 w2 := (BBox.new s1 (.slice xa1 x1.length xc1) k1 n1 w1).below hb2 (by simp)
  clear q0 q1 q2 q3 q4 f0 f1 f2 f3 f4 r0 r1 r2 r3 r4 g0 g1 g2 g3 g4
  obtain ⟨q0, q1, q2, q3, q4, f0, f1, f2, f3, f4⟩ := hq2
  obtain ⟨r0, r1, r2, r3, r4, g0, g1, g2, g3, g4⟩ := hr2
  obtain ⟨y0, y1, y2, y3, z0, z1, z2, z3⟩ := hy2
  have p3 : w.heap.size < w2.heap.size := by omega
  have p4 : w.heap.size + 1 < w2.heap.size := by omega
  have p5 : w1.heap.size < w2.heap.size := by omega
  have hbf : Below w.heap.size w w2 := by (repeat (first | with_reducible assumption | with_reducible exact Below.refl _ _ | with_reducible refine Below.drew ?_ | with_reducible refine belowDrewN ?_ _ | ((with_reducible refine Below.setCell ?_ ?_ _); rotate_left; focus (first | omega | (simp; done) | (simp; omega))) | ((with_reducible refine Below.alloc ?_ ?_ _); rotate_left; focus (first | omega | (simp; done) | (simp; omega))) | ((with_reducible refine Below.trans ?_ (Below.mono hbz ?_)); rotate_left; focus (first | omega | (simp; done) | (simp; omega))) | ((with_reducible refine Below.trans ?_ (Below.mono hb2 ?_)); rotate_left; focus (first | omega | (simp; done) | (simp; omega)))))
  have hk2 := resB_k s' x' ds
  generalize hR2 : resB s' x' ds = R2 at *
  obtain ⟨⟨s2, x2, k2, n2⟩, e2⟩ := R2
  simp only [Bnd.s_mk, Bnd.x_mk, Bnd.k_mk, Bnd.n_mk] at *
  have hmean : meanB s x s' x' ds = (if e1 = 1 ∧ e2 = 1 then decide (k1 = k2) && decide (n1 = n2) else decide (e1 = 0) && (decide (e2 = 0) && eqTx s s')) := by
    simp only [meanB, HR1.out, hR2, Bnd.k_mk, Bnd.n_mk]
  have HM2 := Lib.hid hm2; clear hm2; have HR2 := Lib.hid hR2; clear hR2; have HB2 := Lib.hid hb2; clear hb2; have HMEAN := Lib.hid hmean; clear hmean
  have hk1 := HK1.out
  clear HK1
  by_cases hs : s = s'
  · have hss : (s.toList == s'.toList) = true := by rw [hs]; simp
    have hee := eqTx_yes hs
    have HS := Lib.hid hs; clear hs
    by_cases hkk : k1 = k2
    · have hkb : (k1 == k2) = true := by simp [hkk]
      by_cases hnn : n1 = n2
      · have hnb : (n1 == n2) = true := by simp [hnn]
        have HKK := Lib.hid hkk; clear hkk; have HNN := Lib.hid hnn; clear hnn
        rcases hk1 with rfl | rfl | rfl <;> rcases hk2 with rfl | rfl | rfl <;> (go_wp2_with fail; go_ret; exact ⟨ret_b (by rw [HMEAN.out]; simp [HKK.out, HNN.out, hee]), by (repeat (first | with_reducible assumption | with_reducible exact Below.refl _ _ | with_reducible refine Below.drew ?_ | with_reducible refine belowDrewN ?_ _ | ((with_reducible refine Below.setCell ?_ ?_ _); rotate_left; focus (first | omega | (simp; done) | (simp; omega))) | ((with_reducible refine Below.alloc ?_ ?_ _); rotate_left; focus (first | omega | (simp; done) | (simp; omega))) | ((with_reducible refine Below.trans ?_ (Below.mono hbf ?_)); rotate_left; focus (first | omega | (simp; done) | (simp; omega)))))⟩)
      · have hnb : (n1 == n2) = false := by simp [hnn]
        have HKK := Lib.hid hkk; clear hkk; have HNN := Lib.hid hnn; clear hnn
        rcases hk1 with rfl | rfl | rfl <;> rcases hk2 with rfl | rfl | rfl <;> (go_wp2_with fail; go_ret; exact ⟨ret_b (by rw [HMEAN.out]; simp [HKK.out, HNN.out, hee]), by (repeat (first | with_reducible assumption | with_reducible exact Below.refl _ _ | with_reducible refine Below.drew ?_ | with_reducible refine belowDrewN ?_ _ | ((with_reducible refine Below.setCell ?_ ?_ _); rotate_left; focus (first | omega | (simp; done) | (simp; omega))) | ((with_reducible refine Below.alloc ?_ ?_ _); rotate_left; focus (first | omega | (simp; done) | (simp; omega))) | ((with_reducible refine Below.trans ?_ (Below.mono hbf ?_)); rotate_left; focus (first | omega | (simp; done) | (simp; omega)))))⟩)
    · have hkb : (k1 == k2) = false := by simp [hkk]
      have HKK := Lib.hid hkk; clear hkk
      rcases hk1 with rfl | rfl | rfl <;> rcases hk2 with rfl | rfl | rfl <;> (go_wp2_with fail; go_ret; exact ⟨ret_b (by rw [HMEAN.out]; simp [HKK.out, hee]), by (repeat (first | with_reducible assumption | with_reducible exact Below.refl _ _ | with_reducible refine Below.drew ?_ | with_reducible refine belowDrewN ?_ _ | ((with_reducible refine Below.setCell ?_ ?_ _); rotate_left; focus (first | omega | (simp; done) | (simp; omega))) | ((with_reducible refine Below.alloc ?_ ?_ _); rotate_left; focus (first | omega | (simp; done) | (simp; omega))) | ((with_reducible refine Below.trans ?_ (Below.mono hbf ?_)); rotate_left; focus (first | omega | (simp; done) | (simp; omega)))))⟩)
  · have hss := ba_ne hs
    have hee := eqTx_no hs
    have HS := Lib.hid hs; clear hs
    by_cases hkk : k1 = k2
    · have hkb : (k1 == k2) = true := by simp [hkk]
      by_cases hnn : n1 = n2
      · have hnb : (n1 == n2) = true := by simp [hnn]
        have HKK := Lib.hid hkk; clear hkk; have HNN := Lib.hid hnn; clear hnn
        rcases hk1 with rfl | rfl | rfl <;> rcases hk2 with rfl | rfl | rfl <;> (go_wp2_with fail; go_ret; exact ⟨ret_b (by rw [HMEAN.out]; simp [HKK.out, HNN.out, hee]), by (repeat (first | with_reducible assumption | with_reducible exact Below.refl _ _ | with_reducible refine Below.drew ?_ | with_reducible refine belowDrewN ?_ _ | ((with_reducible refine Below.setCell ?_ ?_ _); rotate_left; focus (first | omega | (simp; done) | (simp; omega))) | ((with_reducible refine Below.alloc ?_ ?_ _); rotate_left; focus (first | omega | (simp; done) | (simp; omega))) | ((with_reducible refine Below.trans ?_ (Below.mono hbf ?_)); rotate_left; focus (first | omega | (simp; done) | (simp; omega)))))⟩)
      · have hnb : (n1 == n2) = false := by simp [hnn]
        have HKK := Lib.hid hkk; clear hkk; have HNN := Lib.hid hnn; clear hnn
        rcases hk1 with rfl | rfl | rfl <;> rcases hk2 with rfl | rfl | rfl <;> (go_wp2_with fail; go_ret; exact ⟨ret_b (by rw [HMEAN.out]; simp [HKK.out, HNN.out, hee]), by (repeat (first | with_reducible assumption | with_reducible exact Below.refl _ _ | with_reducible refine Below.drew ?_ | with_reducible refine belowDrewN ?_ _ | ((with_reducible refine Below.setCell ?_ ?_ _); rotate_left; focus (first | omega | (simp; done) | (simp; omega))) | ((with_reducible refine Below.alloc ?_ ?_ _); rotate_left; focus (first | omega | (simp; done) | (simp; omega))) | ((with_reducible refine Below.trans ?_ (Below.mono hbf ?_)); rotate_left; focus (first | omega | (simp; done) | (simp; omega)))))⟩)
    · have hkb : (k1 == k2) = false := by simp [hkk]
      have HKK := Lib.hid hkk; clear hkk
      rcases hk1 with rfl | rfl | rfl <;> rcases hk2 with rfl | rfl | rfl <;> (go_wp2_with fail; go_ret; exact ⟨ret_b (by rw [HMEAN.out]; simp [HKK.out, hee]), by (repeat (first | with_reducible assumption | with_reducible exact Below.refl _ _ | with_reducible refine Below.drew ?_ | with_reducible refine belowDrewN ?_ _ | ((with_reducible refine Below.setCell ?_ ?_ _); rotate_left; focus (first | omega | (simp; done) | (simp; omega))) | ((with_reducible refine Below.alloc ?_ ?_ _); rotate_left; focus (first | omega | (simp; done) | (simp; omega))) | ((with_reducible refine Below.trans ?_ (Below.mono hbf ?_)); rotate_left; focus (first | omega | (simp; done) | (simp; omega)))))⟩)
/-- do they mean the same, all being valid -/
noncomputable def meanG (ok : Bool) (s : ByteArray) (x : List Int) (s' : ByteArray) (x' : List Int) (ds : List Bnd) : Bool := ok && meanB s x s' x' ds
set_option maxHeartbeats 2000000 in
theorem iSameMeaning_calls (ds : List Bnd) (a : Option Addr) (cap : Nat) (ms : List M) (k n : Int) (s : ByteArray) (x : List Int) (es : List Syn) (xa : Option Addr) (xc : Nat) (ia : Option Addr) (ic : Nat) (ims : List M) (k' n' : Int) (s' : ByteArray) (x' : List Int) (es' : List Syn) (xa' : Option Addr) (xc' : Nat) (ia' : Option Addr) (ic' : Nat) (ims' : List M) (w : World)
    (hwf : Bnd.wfL ds) (hs9 : ∀ d ∈ ds, d.s.size ≤ 1048576) (hB : ds.length + Bnd.wtX ds ≤ 2000000) (hi : Bnd.IsL ds ms) (hin : (M.sl a cap 4 49 ms).In w)
    (hwf2 : (Syn.mk k n s x es).wf) (hcB : Syn.countL es ≤ 1000000000) (hi2 : Syn.IsL 43 es ims) (hown : (SynOwn 43 xa xc x ia ic ims).In w)
    (hwf3 : (Syn.mk k' n' s' x' es').wf) (hcB3 : Syn.countL es' ≤ 1000000000) (hi3 : Syn.IsL 43 es' ims') (hown3 : (SynOwn 43 xa' xc' x' ia' ic' ims').In w) :
    Calls Try.prog 41 #[.slice a ms.length cap, .agg #[.int .i64 k, .int .i64 n, .string s, .slice xa x.length xc, .slice ia ims.length ic], .agg #[.int .i64 k', .int .i64 n', .string s', .slice xa' x'.length xc', .slice ia' ims'.length ic']] w (Ret (.bool (meanG (areB ds && (isIdB k n s x es && isIdB k' n' s' x' es')) s x s' x' ds)) w) := by
  have hl := hi.length
  have hcap := hin.len
  have hx := SynIn_x hown
  have hxl := Ints.len hx
  have hx' := SynIn_x hown3
  have hxl' := Ints.len hx'
  have HI := Lib.hid hi; clear hi; have HIN := Lib.hid hin; clear hin; have HX := Lib.hid hx; clear hx; have HX' := Lib.hid hx'; clear hx'; have HWF := Lib.hid hwf; clear hwf; have HS9 := Lib.hid hs9; clear hs9; have HL := Lib.hid hl; clear hl; have HI2 := Lib.hid hi2; clear hi2; have HOWN := Lib.hid hown; clear hown; have HWF2 := Lib.hid hwf2; clear hwf2; have HI3 := Lib.hid hi3; clear hi3; have HOWN3 := Lib.hid hown3; clear hown3; have HWF3 := Lib.hid hwf3; clear hwf3
  go_enter Try.func41, Try.ntmps41
  go_wp2_with fail
  refine (iAreBindings_calls ds a cap ms _ HWF.out HI.out (HIN.out.below (by (repeat (first | with_reducible assumption | with_reducible exact Below.refl _ _ | with_reducible refine Below.drew ?_ | with_reducible refine belowDrewN ?_ _ | ((with_reducible refine Below.setCell ?_ ?_ _); rotate_left; focus (first | omega | (simp; done) | (simp; omega))) | ((with_reducible refine Below.alloc ?_ ?_ _); rotate_left; focus (first | omega | (simp; done) | (simp; omega))))))) HS9.out).mono ?_
  rintro e w1 ⟨rfl, hb1⟩
  have hz1 := hb1.size
  simp only [World.size_alloc] at hz1
  have hq1 : SBox w.heap.size k n s (.slice xa x.length xc) (.slice ia ims.length ic) w1 := ((SBox.new k n s (.slice xa x.length xc) (.slice ia ims.length ic) w).of (heapNew _ _ _ (by simp))).below hb1 (by simp; omega)
  have hr1 : SBox (w.heap.size + 1) k' n' s' (.slice xa' x'.length xc') (.slice ia' ims'.length ic') w1 := by
    have h := (SBox.new k' n' s' (.slice xa' x'.length xc') (.slice ia' ims'.length ic') (w.alloc (.cells #[.int .i64 k, .int .i64 n, .string s, .slice xa x.length xc, .slice ia ims.length ic] 43))).below hb1 (by simp); simpa using h
  have p0 := hq1.lt
  have p1 := hr1.lt
  have hq10 := hq1
  have hr10 := hr1
  obtain ⟨q0, q1, q2, q3, q4, f0, f1, f2, f3, f4⟩ := hq1
  obtain ⟨r0, r1, r2, r3, r4, g0, g1, g2, g3, g4⟩ := hr1
  have HQ10 := Lib.hid hq10; clear hq10; have HR10 := Lib.hid hr10; clear hr10
  cases hA : areB ds with
  | false =>
    have hno : meanG (areB ds && (isIdB k n s x es && isIdB k' n' s' x' es')) s x s' x' ds = false := by rw [hA]; rfl
    have HA := Lib.hid hA; clear hA; have HNO := Lib.hid hno; clear hno
    go_wp2_with fail
    go_ret
    exact ⟨ret_b (by rw [HNO.out]), by (repeat (first | with_reducible assumption | with_reducible exact Below.refl _ _ | with_reducible refine Below.drew ?_ | with_reducible refine belowDrewN ?_ _ | ((with_reducible refine Below.setCell ?_ ?_ _); rotate_left; focus (first | omega | (simp; done) | (simp; omega))) | ((with_reducible refine Below.alloc ?_ ?_ _); rotate_left; focus (first | omega | (simp; done) | (simp; omega))) | ((with_reducible refine Below.trans ?_ (Below.mono hb1 ?_)); rotate_left; focus (first | omega | (simp; done) | (simp; omega)))))⟩
  | true =>
    go_wp2_with fail
    refine (iIsIdentifier_calls k n s x es xa xc ia ic ims _ HWF2.out hcB HI2.out (HOWN.out.below (by (repeat (first | with_reducible assumption | with_reducible exact Below.refl _ _ | with_reducible refine Below.drew ?_ | with_reducible refine belowDrewN ?_ _ | ((with_reducible refine Below.setCell ?_ ?_ _); rotate_left; focus (first | omega | (simp; done) | (simp; omega))) | ((with_reducible refine Below.alloc ?_ ?_ _); rotate_left; focus (first | omega | (simp; done) | (simp; omega))) | ((with_reducible refine Below.trans ?_ (Below.mono hb1 ?_)); rotate_left; focus (first | omega | (simp; done) | (simp; omega)))))))).mono ?_
    rintro e w2 ⟨rfl, hb2⟩
    have hz2 := hb2.size
    have hq2 := HQ10.out.below hb2 p0
    have hr2 := HR10.out.below hb2 p1
    have p2 := hq2.lt
    have p3 := hr2.lt
    clear q0 q1 q2 q3 q4 f0 f1 f2 f3 f4 r0 r1 r2 r3 r4 g0 g1 g2 g3 g4
    have hq20 := hq2
    have hr20 := hr2
    obtain ⟨q0, q1, q2, q3, q4, f0, f1, f2, f3, f4⟩ := hq2
    obtain ⟨r0, r1, r2, r3, r4, g0, g1, g2, g3, g4⟩ := hr2
    have HQ20 := Lib.hid hq20; clear hq20; have HR20 := Lib.hid hr20; clear hr20
    cases hid : isIdB k n s x es with
    | false =>
      have hno : meanG (areB ds && (isIdB k n s x es && isIdB k' n' s' x' es')) s x s' x' ds = false := by rw [hA, hid]; rfl
      have HA := Lib.hid hA; clear hA; have HID := Lib.hid hid; clear hid; have HNO := Lib.hid hno; clear hno
      go_wp2_with fail
      go_ret
      exact ⟨ret_b (by rw [HNO.out]), by (repeat (first | with_reducible assumption | with_reducible exact Below.refl _ _ | with_reducible refine Below.drew ?_ | with_reducible refine belowDrewN ?_ _ | ((with_reducible refine Below.setCell ?_ ?_ _); rotate_left; focus (first | omega | (simp; done) | (simp; omega))) | ((with_reducible refine Below.alloc ?_ ?_ _); rotate_left; focus (first | omega | (simp; done) | (simp; omega))) | ((with_reducible refine Below.trans ?_ (Below.mono hb1 ?_)); rotate_left; focus (first | omega | (simp; done) | (simp; omega))) | ((with_reducible refine Below.trans ?_ (Below.mono hb2 ?_)); rotate_left; focus (first | omega | (simp; done) | (simp; omega)))))⟩
    | true =>
      go_wp2_with fail
      refine (iIsIdentifier_calls k' n' s' x' es' xa' xc' ia' ic' ims' _ HWF3.out hcB3 HI3.out (HOWN3.out.below (by (repeat (first | with_reducible assumption | with_reducible exact Below.refl _ _ | with_reducible refine Below.drew ?_ | with_reducible refine belowDrewN ?_ _ | ((with_reducible refine Below.setCell ?_ ?_ _); rotate_left; focus (first | omega | (simp; done) | (simp; omega))) | ((with_reducible refine Below.alloc ?_ ?_ _); rotate_left; focus (first | omega | (simp; done) | (simp; omega))) | ((with_reducible refine Below.trans ?_ (Below.mono hb1 ?_)); rotate_left; focus (first | omega | (simp; done) | (simp; omega))) | ((with_reducible refine Below.trans ?_ (Below.mono hb2 ?_)); rotate_left; focus (first | omega | (simp; done) | (simp; omega)))))))).mono ?_
      rintro e w3 ⟨rfl, hb3⟩
      have hz3 := hb3.size
      have hq3 := HQ20.out.below hb3 p2
      have hr3 := HR20.out.below hb3 p3
      clear q0 q1 q2 q3 q4 f0 f1 f2 f3 f4 r0 r1 r2 r3 r4 g0 g1 g2 g3 g4
      have p4 := hq3.lt
      have p5 := hr3.lt
      obtain ⟨q0, q1, q2, q3, q4, f0, f1, f2, f3, f4⟩ := hq3
      obtain ⟨r0, r1, r2, r3, r4, g0, g1, g2, g3, g4⟩ := hr3
      cases hid2 : isIdB k' n' s' x' es' with
      | false =>
        have hno : meanG (areB ds && (isIdB k n s x es && isIdB k' n' s' x' es')) s x s' x' ds = false := by rw [hA, hid, hid2]; rfl
        have HA := Lib.hid hA; clear hA; have HID := Lib.hid hid; clear hid; have HID2 := Lib.hid hid2; clear hid2; have HNO := Lib.hid hno; clear hno
        go_wp2_with fail
        go_ret
        exact ⟨ret_b (by rw [HNO.out]), by (repeat (first | with_reducible assumption | with_reducible exact Below.refl _ _ | with_reducible refine Below.drew ?_ | with_reducible refine belowDrewN ?_ _ | ((with_reducible refine Below.setCell ?_ ?_ _); rotate_left; focus (first | omega | (simp; done) | (simp; omega))) | ((with_reducible refine Below.alloc ?_ ?_ _); rotate_left; focus (first | omega | (simp; done) | (simp; omega))) | ((with_reducible refine Below.trans ?_ (Below.mono hb1 ?_)); rotate_left; focus (first | omega | (simp; done) | (simp; omega))) | ((with_reducible refine Below.trans ?_ (Below.mono hb2 ?_)); rotate_left; focus (first | omega | (simp; done) | (simp; omega))) | ((with_reducible refine Below.trans ?_ (Below.mono hb3 ?_)); rotate_left; focus (first | omega | (simp; done) | (simp; omega)))))⟩
      | true =>
        have hno : meanG (areB ds && (isIdB k n s x es && isIdB k' n' s' x' es')) s x s' x' ds = meanB s x s' x' ds := by rw [hA, hid, hid2]; rfl
        have HA := Lib.hid hA; clear hA; have HID := Lib.hid hid; clear hid; have HID2 := Lib.hid hid2; clear hid2; have HNO := Lib.hid hno; clear hno
        go_wp2_with fail
        refine (iMeaning_calls ds a cap ms k n s x xa xc ia ims.length ic k' n' s' x' xa' xc' ia' ims'.length ic' _ hB HI.out (HIN.out.below (by (repeat (first | with_reducible assumption | with_reducible exact Below.refl _ _ | with_reducible refine Below.drew ?_ | with_reducible refine belowDrewN ?_ _ | ((with_reducible refine Below.setCell ?_ ?_ _); rotate_left; focus (first | omega | (simp; done) | (simp; omega))) | ((with_reducible refine Below.alloc ?_ ?_ _); rotate_left; focus (first | omega | (simp; done) | (simp; omega))) | ((with_reducible refine Below.trans ?_ (Below.mono hb1 ?_)); rotate_left; focus (first | omega | (simp; done) | (simp; omega))) | ((with_reducible refine Below.trans ?_ (Below.mono hb2 ?_)); rotate_left; focus (first | omega | (simp; done) | (simp; omega))) | ((with_reducible refine Below.trans ?_ (Below.mono hb3 ?_)); rotate_left; focus (first | omega | (simp; done) | (simp; omega))))))) (HX.out.below (by (repeat (first | with_reducible assumption | with_reducible exact Below.refl _ _ | with_reducible refine Below.drew ?_ | with_reducible refine belowDrewN ?_ _ | ((with_reducible refine Below.setCell ?_ ?_ _); rotate_left; focus (first | omega | (simp; done) | (simp; omega))) | ((with_reducible refine Below.alloc ?_ ?_ _); rotate_left; focus (first | omega | (simp; done) | (simp; omega))) | ((with_reducible refine Below.trans ?_ (Below.mono hb1 ?_)); rotate_left; focus (first | omega | (simp; done) | (simp; omega))) | ((with_reducible refine Below.trans ?_ (Below.mono hb2 ?_)); rotate_left; focus (first | omega | (simp; done) | (simp; omega))) | ((with_reducible refine Below.trans ?_ (Below.mono hb3 ?_)); rotate_left; focus (first | omega | (simp; done) | (simp; omega))))))) (HX'.out.below (by (repeat (first | with_reducible assumption | with_reducible exact Below.refl _ _ | with_reducible refine Below.drew ?_ | with_reducible refine belowDrewN ?_ _ | ((with_reducible refine Below.setCell ?_ ?_ _); rotate_left; focus (first | omega | (simp; done) | (simp; omega))) | ((with_reducible refine Below.alloc ?_ ?_ _); rotate_left; focus (first | omega | (simp; done) | (simp; omega))) | ((with_reducible refine Below.trans ?_ (Below.mono hb1 ?_)); rotate_left; focus (first | omega | (simp; done) | (simp; omega))) | ((with_reducible refine Below.trans ?_ (Below.mono hb2 ?_)); rotate_left; focus (first | omega | (simp; done) | (simp; omega))) | ((with_reducible refine Below.trans ?_ (Below.mono hb3 ?_)); rotate_left; focus (first | omega | (simp; done) | (simp; omega)))))))).mono ?_
        rintro e w4 ⟨rfl, hb4⟩
        go_wp2_with fail
        go_ret
        exact ⟨ret_b (by rw [HNO.out]), by (repeat (first | with_reducible assumption | with_reducible exact Below.refl _ _ | with_reducible refine Below.drew ?_ | with_reducible refine belowDrewN ?_ _ | ((with_reducible refine Below.setCell ?_ ?_ _); rotate_left; focus (first | omega | (simp; done) | (simp; omega))) | ((with_reducible refine Below.alloc ?_ ?_ _); rotate_left; focus (first | omega | (simp; done) | (simp; omega))) | ((with_reducible refine Below.trans ?_ (Below.mono hb1 ?_)); rotate_left; focus (first | omega | (simp; done) | (simp; omega))) | ((with_reducible refine Below.trans ?_ (Below.mono hb2 ?_)); rotate_left; focus (first | omega | (simp; done) | (simp; omega))) | ((with_reducible refine Below.trans ?_ (Below.mono hb3 ?_)); rotate_left; focus (first | omega | (simp; done) | (simp; omega))) | ((with_reducible refine Below.trans ?_ (Below.mono hb4 ?_)); rotate_left; focus (first | omega | (simp; done) | (simp; omega)))))⟩
set_option maxHeartbeats 2000000 in
theorem sSameMeaning_calls (ds : List Bnd) (a : Option Addr) (cap : Nat) (ms : List M) (k n : Int) (s : ByteArray) (x : List Int) (es : List Syn) (xa : Option Addr) (xc : Nat) (ia : Option Addr) (ic : Nat) (ims : List M) (k' n' : Int) (s' : ByteArray) (x' : List Int) (es' : List Syn) (xa' : Option Addr) (xc' : Nat) (ia' : Option Addr) (ic' : Nat) (ims' : List M) (w : World)
    (hwf : Bnd.wfL ds) (hs9 : ∀ d ∈ ds, d.s.size ≤ 1048576) (hB : ds.length + Bnd.wtX ds ≤ 2000000) (hi : Bnd.IsL ds ms) (hin : (M.sl a cap 4 49 ms).In w)
    (hwf2 : (Syn.mk k n s x es).wf) (hcB : Syn.countL es ≤ 1000000000) (hi2 : Syn.IsL 43 es ims) (hown : (SynOwn 43 xa xc x ia ic ims).In w)
    (hwf3 : (Syn.mk k' n' s' x' es').wf) (hcB3 : Syn.countL es' ≤ 1000000000) (hi3 : Syn.IsL 43 es' ims') (hown3 : (SynOwn 43 xa' xc' x' ia' ic' ims').In w) :
    Calls Try.prog 78 #[.slice a ms.length cap, .agg #[.int .i64 k, .int .i64 n, .string s, .slice xa x.length xc, .slice ia ims.length ic], .agg #[.int .i64 k', .int .i64 n', .string s', .slice xa' x'.length xc', .slice ia' ims'.length ic']] w (Ret (.bool (meanG (areB ds && (isIdB k n s x es && isIdB k' n' s' x' es')) s x s' x' ds)) w) := by
  have hl := hi.length
  have hcap := hin.len
  have hx := SynIn_x hown
  have hxl := Ints.len hx
  have hx' := SynIn_x hown3
  have hxl' := Ints.len hx'
  have HI := Lib.hid hi; clear hi; have HIN := Lib.hid hin; clear hin; have HX := Lib.hid hx; clear hx; have HX' := Lib.hid hx'; clear hx'; have HWF := Lib.hid hwf; clear hwf; have HS9 := Lib.hid hs9; clear hs9; have HL := Lib.hid hl; clear hl; have HI2 := Lib.hid hi2; clear hi2; have HOWN := Lib.hid hown; clear hown; have HWF2 := Lib.hid hwf2; clear hwf2; have HI3 := Lib.hid hi3; clear hi3; have HOWN3 := Lib.hid hown3; clear hown3; have HWF3 := Lib.hid hwf3; clear hwf3
  go_enter Try.func78, Try.ntmps78
  go_wp2_with fail
  refine (sAreBindings_calls ds a cap ms _ HWF.out HI.out (HIN.out.below (by (repeat (first | with_reducible assumption | with_reducible exact Below.refl _ _ | with_reducible refine Below.drew ?_ | with_reducible refine belowDrewN ?_ _ | ((with_reducible refine Below.setCell ?_ ?_ _); rotate_left; focus (first | omega | (simp; done) | (simp; omega))) | ((with_reducible refine Below.alloc ?_ ?_ _); rotate_left; focus (first | omega | (simp; done) | (simp; omega)))))))  ).mono ?_
  rintro e w1 ⟨rfl, hb1⟩
  have hz1 := hb1.size
  simp only [World.size_alloc] at hz1
  have hq1 : SBox w.heap.size k n s (.slice xa x.length xc) (.slice ia ims.length ic) w1 := ((SBox.new k n s (.slice xa x.length xc) (.slice ia ims.length ic) w).of (heapNew _ _ _ (by simp))).below hb1 (by simp; omega)
  have hr1 : SBox (w.heap.size + 1) k' n' s' (.slice xa' x'.length xc') (.slice ia' ims'.length ic') w1 := by
    have h := (SBox.new k' n' s' (.slice xa' x'.length xc') (.slice ia' ims'.length ic') (w.alloc (.cells #[.int .i64 k, .int .i64 n, .string s, .slice xa x.length xc, .slice ia ims.length ic] 43))).below hb1 (by simp); simpa using h
  have p0 := hq1.lt
  have p1 := hr1.lt
  have hq10 := hq1
  have hr10 := hr1
  obtain ⟨q0, q1, q2, q3, q4, f0, f1, f2, f3, f4⟩ := hq1
  obtain ⟨r0, r1, r2, r3, r4, g0, g1, g2, g3, g4⟩ := hr1
  have HQ10 := Lib.hid hq10; clear hq10; have HR10 := Lib.hid hr10; clear hr10
  cases hA : areB ds with
  | false =>
    have hno : meanG (areB ds && (isIdB k n s x es && isIdB k' n' s' x' es')) s x s' x' ds = false := by rw [hA]; rfl
    have HA := Lib.hid hA; clear hA; have HNO := Lib.hid hno; clear hno
    go_wp2_with fail
    go_ret
    exact ⟨ret_b (by rw [HNO.out]), by (repeat (first | with_reducible assumption | with_reducible exact Below.refl _ _ | with_reducible refine Below.drew ?_ | with_reducible refine belowDrewN ?_ _ | ((with_reducible refine Below.setCell ?_ ?_ _); rotate_left; focus (first | omega | (simp; done) | (simp; omega))) | ((with_reducible refine Below.alloc ?_ ?_ _); rotate_left; focus (first | omega | (simp; done) | (simp; omega))) | ((with_reducible refine Below.trans ?_ (Below.mono hb1 ?_)); rotate_left; focus (first | omega | (simp; done) | (simp; omega)))))⟩
  | true =>
    go_wp2_with fail
    refine (sIsIdentifier_calls k n s x es xa xc ia ic ims _ HWF2.out hcB HI2.out (HOWN.out.below (by (repeat (first | with_reducible assumption | with_reducible exact Below.refl _ _ | with_reducible refine Below.drew ?_ | with_reducible refine belowDrewN ?_ _ | ((with_reducible refine Below.setCell ?_ ?_ _); rotate_left; focus (first | omega | (simp; done) | (simp; omega))) | ((with_reducible refine Below.alloc ?_ ?_ _); rotate_left; focus (first | omega | (simp; done) | (simp; omega))) | ((with_reducible refine Below.trans ?_ (Below.mono hb1 ?_)); rotate_left; focus (first | omega | (simp; done) | (simp; omega)))))))).mono ?_
    rintro e w2 ⟨rfl, hb2⟩
    have hz2 := hb2.size
    have hq2 := HQ10.out.below hb2 p0
    have hr2 := HR10.out.below hb2 p1
    have p2 := hq2.lt
    have p3 := hr2.lt
    clear q0 q1 q2 q3 q4 f0 f1 f2 f3 f4 r0 r1 r2 r3 r4 g0 g1 g2 g3 g4
    have hq20 := hq2
    have hr20 := hr2
    obtain ⟨q0, q1, q2, q3, q4, f0, f1, f2, f3, f4⟩ := hq2
    obtain ⟨r0, r1, r2, r3, r4, g0, g1, g2, g3, g4⟩ := hr2
    have HQ20 := Lib.hid hq20; clear hq20; have HR20 := Lib.hid hr20; clear hr20
    cases hid : isIdB k n s x es with
    | false =>
      have hno : meanG (areB ds && (isIdB k n s x es && isIdB k' n' s' x' es')) s x s' x' ds = false := by rw [hA, hid]; rfl
      have HA := Lib.hid hA; clear hA; have HID := Lib.hid hid; clear hid; have HNO := Lib.hid hno; clear hno
      go_wp2_with fail
      go_ret
      exact ⟨ret_b (by rw [HNO.out]), by (repeat (first | with_reducible assumption | with_reducible exact Below.refl _ _ | with_reducible refine Below.drew ?_ | with_reducible refine belowDrewN ?_ _ | ((with_reducible refine Below.setCell ?_ ?_ _); rotate_left; focus (first | omega | (simp; done) | (simp; omega))) | ((with_reducible refine Below.alloc ?_ ?_ _); rotate_left; focus (first | omega | (simp; done) | (simp; omega))) | ((with_reducible refine Below.trans ?_ (Below.mono hb1 ?_)); rotate_left; focus (first | omega | (simp; done) | (simp; omega))) | ((with_reducible refine Below.trans ?_ (Below.mono hb2 ?_)); rotate_left; focus (first | omega | (simp; done) | (simp; omega)))))⟩
    | true =>
      go_wp2_with fail
      refine (sIsIdentifier_calls k' n' s' x' es' xa' xc' ia' ic' ims' _ HWF3.out hcB3 HI3.out (HOWN3.out.below (by (repeat (first | with_reducible assumption | with_reducible exact Below.refl _ _ | with_reducible refine Below.drew ?_ | with_reducible refine belowDrewN ?_ _ | ((with_reducible refine Below.setCell ?_ ?_ _); rotate_left; focus (first | omega | (simp; done) | (simp; omega))) | ((with_reducible refine Below.alloc ?_ ?_ _); rotate_left; focus (first | omega | (simp; done) | (simp; omega))) | ((with_reducible refine Below.trans ?_ (Below.mono hb1 ?_)); rotate_left; focus (first | omega | (simp; done) | (simp; omega))) | ((with_reducible refine Below.trans ?_ (Below.mono hb2 ?_)); rotate_left; focus (first | omega | (simp; done) | (simp; omega)))))))).mono ?_
      rintro e w3 ⟨rfl, hb3⟩
      have hz3 := hb3.size
      have hq3 := HQ20.out.below hb3 p2
      have hr3 := HR20.out.below hb3 p3
      clear q0 q1 q2 q3 q4 f0 f1 f2 f3 f4 r0 r1 r2 r3 r4 g0 g1 g2 g3 g4
      have p4 := hq3.lt
      have p5 := hr3.lt
      obtain ⟨q0, q1, q2, q3, q4, f0, f1, f2, f3, f4⟩ := hq3
      obtain ⟨r0, r1, r2, r3, r4, g0, g1, g2, g3, g4⟩ := hr3
      cases hid2 : isIdB k' n' s' x' es' with
      | false =>
        have hno : meanG (areB ds && (isIdB k n s x es && isIdB k' n' s' x' es')) s x s' x' ds = false := by rw [hA, hid, hid2]; rfl
        have HA := Lib.hid hA; clear hA; have HID := Lib.hid hid; clear hid; have HID2 := Lib.hid hid2; clear hid2; have HNO := Lib.hid hno; clear hno
        go_wp2_with fail
        go_ret
        exact ⟨ret_b (by rw [HNO.out]), by (repeat (first | with_reducible assumption | with_reducible exact Below.refl _ _ | with_reducible refine Below.drew ?_ | with_reducible refine belowDrewN ?_ _ | ((with_reducible refine Below.setCell ?_ ?_ _); rotate_left; focus (first | omega | (simp; done) | (simp; omega))) | ((with_reducible refine Below.alloc ?_ ?_ _); rotate_left; focus (first | omega | (simp; done) | (simp; omega))) | ((with_reducible refine Below.trans ?_ (Below.mono hb1 ?_)); rotate_left; focus (first | omega | (simp; done) | (simp; omega))) | ((with_reducible refine Below.trans ?_ (Below.mono hb2 ?_)); rotate_left; focus (first | omega | (simp; done) | (simp; omega))) | ((with_reducible refine Below.trans ?_ (Below.mono hb3 ?_)); rotate_left; focus (first | omega | (simp; done) | (simp; omega)))))⟩
      | true =>
        have hno : meanG (areB ds && (isIdB k n s x es && isIdB k' n' s' x' es')) s x s' x' ds = meanB s x s' x' ds := by rw [hA, hid, hid2]; rfl
        have HA := Lib.hid hA; clear hA; have HID := Lib.hid hid; clear hid; have HID2 := Lib.hid hid2; clear hid2; have HNO := Lib.hid hno; clear hno
        go_wp2_with fail
        refine (sMeaning_calls ds a cap ms k n s x xa xc ia ims.length ic k' n' s' x' xa' xc' ia' ims'.length ic' _ hB HI.out (HIN.out.below (by (repeat (first | with_reducible assumption | with_reducible exact Below.refl _ _ | with_reducible refine Below.drew ?_ | with_reducible refine belowDrewN ?_ _ | ((with_reducible refine Below.setCell ?_ ?_ _); rotate_left; focus (first | omega | (simp; done) | (simp; omega))) | ((with_reducible refine Below.alloc ?_ ?_ _); rotate_left; focus (first | omega | (simp; done) | (simp; omega))) | ((with_reducible refine Below.trans ?_ (Below.mono hb1 ?_)); rotate_left; focus (first | omega | (simp; done) | (simp; omega))) | ((with_reducible refine Below.trans ?_ (Below.mono hb2 ?_)); rotate_left; focus (first | omega | (simp; done) | (simp; omega))) | ((with_reducible refine Below.trans ?_ (Below.mono hb3 ?_)); rotate_left; focus (first | omega | (simp; done) | (simp; omega))))))) (HX.out.below (by (repeat (first | with_reducible assumption | with_reducible exact Below.refl _ _ | with_reducible refine Below.drew ?_ | with_reducible refine belowDrewN ?_ _ | ((with_reducible refine Below.setCell ?_ ?_ _); rotate_left; focus (first | omega | (simp; done) | (simp; omega))) | ((with_reducible refine Below.alloc ?_ ?_ _); rotate_left; focus (first | omega | (simp; done) | (simp; omega))) | ((with_reducible refine Below.trans ?_ (Below.mono hb1 ?_)); rotate_left; focus (first | omega | (simp; done) | (simp; omega))) | ((with_reducible refine Below.trans ?_ (Below.mono hb2 ?_)); rotate_left; focus (first | omega | (simp; done) | (simp; omega))) | ((with_reducible refine Below.trans ?_ (Below.mono hb3 ?_)); rotate_left; focus (first | omega | (simp; done) | (simp; omega))))))) (HX'.out.below (by (repeat (first | with_reducible assumption | with_reducible exact Below.refl _ _ | with_reducible refine Below.drew ?_ | with_reducible refine belowDrewN ?_ _ | ((with_reducible refine Below.setCell ?_ ?_ _); rotate_left; focus (first | omega | (simp; done) | (simp; omega))) | ((with_reducible refine Below.alloc ?_ ?_ _); rotate_left; focus (first | omega | (simp; done) | (simp; omega))) | ((with_reducible refine Below.trans ?_ (Below.mono hb1 ?_)); rotate_left; focus (first | omega | (simp; done) | (simp; omega))) | ((with_reducible refine Below.trans ?_ (Below.mono hb2 ?_)); rotate_left; focus (first | omega | (simp; done) | (simp; omega))) | ((with_reducible refine Below.trans ?_ (Below.mono hb3 ?_)); rotate_left; focus (first | omega | (simp; done) | (simp; omega)))))))).mono ?_
        rintro e w4 ⟨rfl, hb4⟩
        go_wp2_with fail
        go_ret
        exact ⟨ret_b (by rw [HNO.out]), by (repeat (first | with_reducible assumption | with_reducible exact Below.refl _ _ | with_reducible refine Below.drew ?_ | with_reducible refine belowDrewN ?_ _ | ((with_reducible refine Below.setCell ?_ ?_ _); rotate_left; focus (first | omega | (simp; done) | (simp; omega))) | ((with_reducible refine Below.alloc ?_ ?_ _); rotate_left; focus (first | omega | (simp; done) | (simp; omega))) | ((with_reducible refine Below.trans ?_ (Below.mono hb1 ?_)); rotate_left; focus (first | omega | (simp; done) | (simp; omega))) | ((with_reducible refine Below.trans ?_ (Below.mono hb2 ?_)); rotate_left; focus (first | omega | (simp; done) | (simp; omega))) | ((with_reducible refine Below.trans ?_ (Below.mono hb3 ?_)); rotate_left; focus (first | omega | (simp; done) | (simp; omega))) | ((with_reducible refine Below.trans ?_ (Below.mono hb4 ?_)); rotate_left; focus (first | omega | (simp; done) | (simp; omega)))))⟩
end Go.Proofs.Ytkofpfcbjfkdpaa
