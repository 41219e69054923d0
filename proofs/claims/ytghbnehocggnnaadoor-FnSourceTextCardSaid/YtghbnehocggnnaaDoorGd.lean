/-
  Texts set together by wip/tools/merge.py: Q7, Q8, ST1, ST2, D5. No condition beyond those told with each.
-/
import Derived.Test.YtghbnehocggnnaaDoorGc
import Derived.Deep.RegionHeld3
/-
  Walks: data drawn. No condition. (printed by wip/tools/mkq6.py)
-/
set_option linter.unusedVariables false
set_option linter.unusedSimpArgs false
set_option maxRecDepth 100000
namespace Go.Proofs.YtghbnehocggnnaaDoor
open Go.RowKit

def DrD (d : Nat) : Prop := ∀ (pb : Nat) (a : Option Addr) (cap : Nat) (l : List Int) (w : World), Cur pb a cap l w → Calls Tryd.prog 36 #[.pointer (some ⟨pb, 0, none⟩), .int .i64 d] w (DrawnD (nB d) pb a cap l w)
set_option maxHeartbeats 4000000 in
theorem l1Draw_leaf (d : Nat) (hd1 : (d : Int) ≤ 1) : DrD d := by
  intro pb a cap l w hc
  have hpl := hc.lt
  have HC := Lib.hid hc; clear hc
  go_enter Tryd.func36, Tryd.ntmps36
  go_wp2_with fail
  refine (l01Below_calls 9 pb a cap l _ (HC.out.below (by (repeat (first | with_reducible assumption | with_reducible exact Below.refl _ _ | with_reducible refine Below.drew ?_ | with_reducible refine belowDrewN ?_ _ | ((with_reducible refine Below.setCell ?_ ?_ _); rotate_left; focus (first | omega | (simp; done) | (simp; omega))) | ((with_reducible refine Below.alloc ?_ ?_ _); rotate_left; focus (first | omega | (simp; done) | (simp; omega))))))) (by decide) (by decide)).mono ?_
  rintro e w1 ⟨x, rfl, hx0, hx1, hc1, ho1⟩
  have hz1 := ho1.size
  simp only [World.size_alloc] at hz1
  have hzz := (Zero.new w).only ho1 (.inr (by omega))
  have hoo : OnlyIn pb (pb + 1) w w1 := ((OnlyIn.refl _ _ _).new _).trans ho1
  have HZ1 := Lib.hid hzz; clear hzz
  have HC1 := Lib.hid hc1; clear hc1; have HO1 := Lib.hid ho1; clear ho1; have HOO := Lib.hid hoo; clear hoo
  have hx : x = 0 ∨ x = 1 ∨ x = 2 ∨ x = 3 ∨ x = 4 ∨ x = 5 ∨ x = 6 ∨ x = 7 ∨ x = 8 := by omega
  clear hx0 hx1
  rcases hx with rfl | rfl | rfl | rfl | rfl | rfl | rfl | rfl | rfl
  · go_wp2_with fail
    refine (l01Pick_lit _ _ pb a cap l _ HC1.out ?size (by decide) (by decide) ?texts).mono ?_
    case size => rfl
    case texts => exact Texts.of (by rfl)
    rintro e w2 ⟨x2, rfl, hx2, hc2, ho2⟩
    have hz2 := ho2.size
    have HZ2 := Lib.hid (HZ1.out.only ho2 (.inr (by omega)))
    have HC2 := Lib.hid hc2; clear hc2; have HO2 := Lib.hid ho2; clear ho2
    go_wp2_with fail
    refine (leafSym _ _ hx2).mono ?_
    rintro e w3 ⟨k3, n3, s3, a3, c3, m3, rfl, hi3, hm3, hw3, hb3⟩
    obtain ⟨r0, r1, r2, r3, g0, g1, g2, g3⟩ := HZ2.out.below hb3 (by omega)
    have hc3 := HC2.out.below hb3
    have ho3 := (HOO.out.trans HO2.out).thenBelow (hb3.mono (by omega))
    have HI3 := Lib.hid hi3; clear hi3; have HW3 := Lib.hid hw3; clear hw3; have HM3 := Lib.hid hm3; clear hm3; have HC3 := Lib.hid hc3; clear hc3; have HO3 := Lib.hid ho3; clear ho3; have HB3 := Lib.hid hb3; clear hb3
    go_wp2_with fail
    refine bodyPost_ret (v := .agg #[.int .i64 k3, .int .i64 n3, .string s3, .slice a3 m3.length c3]) (by simp [results, Tryd.results36, go_sem, r0, r1, r2, r3]) rfl ?_
    refine ⟨k3, n3, s3, [], a3, c3, m3, rfl, HI3.out, ?_, HW3.out, by simp [Dat.countL]; exact nB_pos _, ?_, ?_⟩
    · (exact M.Mine.mono (M.Mine.keep HM3.out (fun b hb1 hb2 => by (try simp at hb1); simp (disch := (first | omega | (simp; omega))) only [heapSet, heapNew, heapDrew, heapDrewN])) (by first | omega | (simp; done) | (simp; omega)))
    · exact HC3.out.belowB (B := w.heap.size) (by (repeat (first | with_reducible assumption | with_reducible exact Below.refl _ _ | with_reducible refine Below.drew ?_ | with_reducible refine belowDrewN ?_ _ | ((with_reducible refine Below.setCell ?_ ?_ _); rotate_left; focus (first | omega | (simp; done) | (simp; omega))) | ((with_reducible refine Below.alloc ?_ ?_ _); rotate_left; focus (first | omega | (simp; done) | (simp; omega)))))) hpl
    · exact HO3.out.thenBelow (by (repeat (first | with_reducible assumption | with_reducible exact Below.refl _ _ | with_reducible refine Below.drew ?_ | with_reducible refine belowDrewN ?_ _ | ((with_reducible refine Below.setCell ?_ ?_ _); rotate_left; focus (first | omega | (simp; done) | (simp; omega))) | ((with_reducible refine Below.alloc ?_ ?_ _); rotate_left; focus (first | omega | (simp; done) | (simp; omega))))))
  · go_wp2_with fail
    refine (l01Pick_lit _ _ pb a cap l _ HC1.out ?size (by decide) (by decide) ?texts).mono ?_
    case size => rfl
    case texts => exact Texts.of (by rfl)
    rintro e w2 ⟨x2, rfl, hx2, hc2, ho2⟩
    have hz2 := ho2.size
    have HZ2 := Lib.hid (HZ1.out.only ho2 (.inr (by omega)))
    have HC2 := Lib.hid hc2; clear hc2; have HO2 := Lib.hid ho2; clear ho2
    go_wp2_with fail
    refine (leafSym _ _ hx2).mono ?_
    rintro e w3 ⟨k3, n3, s3, a3, c3, m3, rfl, hi3, hm3, hw3, hb3⟩
    obtain ⟨r0, r1, r2, r3, g0, g1, g2, g3⟩ := HZ2.out.below hb3 (by omega)
    have hc3 := HC2.out.below hb3
    have ho3 := (HOO.out.trans HO2.out).thenBelow (hb3.mono (by omega))
    have HI3 := Lib.hid hi3; clear hi3; have HW3 := Lib.hid hw3; clear hw3; have HM3 := Lib.hid hm3; clear hm3; have HC3 := Lib.hid hc3; clear hc3; have HO3 := Lib.hid ho3; clear ho3; have HB3 := Lib.hid hb3; clear hb3
    go_wp2_with fail
    refine bodyPost_ret (v := .agg #[.int .i64 k3, .int .i64 n3, .string s3, .slice a3 m3.length c3]) (by simp [results, Tryd.results36, go_sem, r0, r1, r2, r3]) rfl ?_
    refine ⟨k3, n3, s3, [], a3, c3, m3, rfl, HI3.out, ?_, HW3.out, by simp [Dat.countL]; exact nB_pos _, ?_, ?_⟩
    · (exact M.Mine.mono (M.Mine.keep HM3.out (fun b hb1 hb2 => by (try simp at hb1); simp (disch := (first | omega | (simp; omega))) only [heapSet, heapNew, heapDrew, heapDrewN])) (by first | omega | (simp; done) | (simp; omega)))
    · exact HC3.out.belowB (B := w.heap.size) (by (repeat (first | with_reducible assumption | with_reducible exact Below.refl _ _ | with_reducible refine Below.drew ?_ | with_reducible refine belowDrewN ?_ _ | ((with_reducible refine Below.setCell ?_ ?_ _); rotate_left; focus (first | omega | (simp; done) | (simp; omega))) | ((with_reducible refine Below.alloc ?_ ?_ _); rotate_left; focus (first | omega | (simp; done) | (simp; omega)))))) hpl
    · exact HO3.out.thenBelow (by (repeat (first | with_reducible assumption | with_reducible exact Below.refl _ _ | with_reducible refine Below.drew ?_ | with_reducible refine belowDrewN ?_ _ | ((with_reducible refine Below.setCell ?_ ?_ _); rotate_left; focus (first | omega | (simp; done) | (simp; omega))) | ((with_reducible refine Below.alloc ?_ ?_ _); rotate_left; focus (first | omega | (simp; done) | (simp; omega))))))
  · go_wp2_with fail
    refine (l01Int_lit _ _ pb a cap l _ HC1.out ?size (by decide) (by decide) ?texts).mono ?_
    case size => rfl
    case texts => exact Nums.of (by rfl)
    rintro e w2 ⟨x2, rfl, hx2, hc2, ho2⟩
    have hz2 := ho2.size
    have HZ2 := Lib.hid (HZ1.out.only ho2 (.inr (by omega)))
    have HC2 := Lib.hid hc2; clear hc2; have HO2 := Lib.hid ho2; clear ho2
    go_wp2_with fail
    refine (leafNum _ _ hx2).mono ?_
    rintro e w3 ⟨k3, n3, s3, a3, c3, m3, rfl, hi3, hm3, hw3, hb3⟩
    obtain ⟨r0, r1, r2, r3, g0, g1, g2, g3⟩ := HZ2.out.below hb3 (by omega)
    have hc3 := HC2.out.below hb3
    have ho3 := (HOO.out.trans HO2.out).thenBelow (hb3.mono (by omega))
    have HI3 := Lib.hid hi3; clear hi3; have HW3 := Lib.hid hw3; clear hw3; have HM3 := Lib.hid hm3; clear hm3; have HC3 := Lib.hid hc3; clear hc3; have HO3 := Lib.hid ho3; clear ho3; have HB3 := Lib.hid hb3; clear hb3
    go_wp2_with fail
    refine bodyPost_ret (v := .agg #[.int .i64 k3, .int .i64 n3, .string s3, .slice a3 m3.length c3]) (by simp [results, Tryd.results36, go_sem, r0, r1, r2, r3]) rfl ?_
    refine ⟨k3, n3, s3, [], a3, c3, m3, rfl, HI3.out, ?_, HW3.out, by simp [Dat.countL]; exact nB_pos _, ?_, ?_⟩
    · (exact M.Mine.mono (M.Mine.keep HM3.out (fun b hb1 hb2 => by (try simp at hb1); simp (disch := (first | omega | (simp; omega))) only [heapSet, heapNew, heapDrew, heapDrewN])) (by first | omega | (simp; done) | (simp; omega)))
    · exact HC3.out.belowB (B := w.heap.size) (by (repeat (first | with_reducible assumption | with_reducible exact Below.refl _ _ | with_reducible refine Below.drew ?_ | with_reducible refine belowDrewN ?_ _ | ((with_reducible refine Below.setCell ?_ ?_ _); rotate_left; focus (first | omega | (simp; done) | (simp; omega))) | ((with_reducible refine Below.alloc ?_ ?_ _); rotate_left; focus (first | omega | (simp; done) | (simp; omega)))))) hpl
    · exact HO3.out.thenBelow (by (repeat (first | with_reducible assumption | with_reducible exact Below.refl _ _ | with_reducible refine Below.drew ?_ | with_reducible refine belowDrewN ?_ _ | ((with_reducible refine Below.setCell ?_ ?_ _); rotate_left; focus (first | omega | (simp; done) | (simp; omega))) | ((with_reducible refine Below.alloc ?_ ?_ _); rotate_left; focus (first | omega | (simp; done) | (simp; omega))))))
  · go_wp2_with fail
    refine (l01Int_lit _ _ pb a cap l _ HC1.out ?size (by decide) (by decide) ?texts).mono ?_
    case size => rfl
    case texts => exact Nums.of (by rfl)
    rintro e w2 ⟨x2, rfl, hx2, hc2, ho2⟩
    have hz2 := ho2.size
    have HZ2 := Lib.hid (HZ1.out.only ho2 (.inr (by omega)))
    have HC2 := Lib.hid hc2; clear hc2; have HO2 := Lib.hid ho2; clear ho2
    go_wp2_with fail
    refine (leafNum _ _ hx2).mono ?_
    rintro e w3 ⟨k3, n3, s3, a3, c3, m3, rfl, hi3, hm3, hw3, hb3⟩
    obtain ⟨r0, r1, r2, r3, g0, g1, g2, g3⟩ := HZ2.out.below hb3 (by omega)
    have hc3 := HC2.out.below hb3
    have ho3 := (HOO.out.trans HO2.out).thenBelow (hb3.mono (by omega))
    have HI3 := Lib.hid hi3; clear hi3; have HW3 := Lib.hid hw3; clear hw3; have HM3 := Lib.hid hm3; clear hm3; have HC3 := Lib.hid hc3; clear hc3; have HO3 := Lib.hid ho3; clear ho3; have HB3 := Lib.hid hb3; clear hb3
    go_wp2_with fail
    refine bodyPost_ret (v := .agg #[.int .i64 k3, .int .i64 n3, .string s3, .slice a3 m3.length c3]) (by simp [results, Tryd.results36, go_sem, r0, r1, r2, r3]) rfl ?_
    refine ⟨k3, n3, s3, [], a3, c3, m3, rfl, HI3.out, ?_, HW3.out, by simp [Dat.countL]; exact nB_pos _, ?_, ?_⟩
    · (exact M.Mine.mono (M.Mine.keep HM3.out (fun b hb1 hb2 => by (try simp at hb1); simp (disch := (first | omega | (simp; omega))) only [heapSet, heapNew, heapDrew, heapDrewN])) (by first | omega | (simp; done) | (simp; omega)))
    · exact HC3.out.belowB (B := w.heap.size) (by (repeat (first | with_reducible assumption | with_reducible exact Below.refl _ _ | with_reducible refine Below.drew ?_ | with_reducible refine belowDrewN ?_ _ | ((with_reducible refine Below.setCell ?_ ?_ _); rotate_left; focus (first | omega | (simp; done) | (simp; omega))) | ((with_reducible refine Below.alloc ?_ ?_ _); rotate_left; focus (first | omega | (simp; done) | (simp; omega)))))) hpl
    · exact HO3.out.thenBelow (by (repeat (first | with_reducible assumption | with_reducible exact Below.refl _ _ | with_reducible refine Below.drew ?_ | with_reducible refine belowDrewN ?_ _ | ((with_reducible refine Below.setCell ?_ ?_ _); rotate_left; focus (first | omega | (simp; done) | (simp; omega))) | ((with_reducible refine Below.alloc ?_ ?_ _); rotate_left; focus (first | omega | (simp; done) | (simp; omega))))))
  · go_wp2_with fail
    refine (l01Once_calls _ pb a cap l _ HC1.out (by decide) (by decide)).mono ?_
    rintro e w2 ⟨x2, rfl, hc2, ho2⟩
    have hz2 := ho2.size
    have HZ2 := Lib.hid (HZ1.out.only ho2 (.inr (by omega)))
    have HC2 := Lib.hid hc2; clear hc2; have HO2 := Lib.hid ho2; clear ho2
    go_wp2_with fail
    refine (leafBool _ _).mono ?_
    rintro e w3 ⟨k3, n3, s3, a3, c3, m3, rfl, hi3, hm3, hw3, hb3⟩
    obtain ⟨r0, r1, r2, r3, g0, g1, g2, g3⟩ := HZ2.out.below hb3 (by omega)
    have hc3 := HC2.out.below hb3
    have ho3 := (HOO.out.trans HO2.out).thenBelow (hb3.mono (by omega))
    have HI3 := Lib.hid hi3; clear hi3; have HW3 := Lib.hid hw3; clear hw3; have HM3 := Lib.hid hm3; clear hm3; have HC3 := Lib.hid hc3; clear hc3; have HO3 := Lib.hid ho3; clear ho3; have HB3 := Lib.hid hb3; clear hb3
    go_wp2_with fail
    refine bodyPost_ret (v := .agg #[.int .i64 k3, .int .i64 n3, .string s3, .slice a3 m3.length c3]) (by simp [results, Tryd.results36, go_sem, r0, r1, r2, r3]) rfl ?_
    refine ⟨k3, n3, s3, [], a3, c3, m3, rfl, HI3.out, ?_, HW3.out, by simp [Dat.countL]; exact nB_pos _, ?_, ?_⟩
    · (exact M.Mine.mono (M.Mine.keep HM3.out (fun b hb1 hb2 => by (try simp at hb1); simp (disch := (first | omega | (simp; omega))) only [heapSet, heapNew, heapDrew, heapDrewN])) (by first | omega | (simp; done) | (simp; omega)))
    · exact HC3.out.belowB (B := w.heap.size) (by (repeat (first | with_reducible assumption | with_reducible exact Below.refl _ _ | with_reducible refine Below.drew ?_ | with_reducible refine belowDrewN ?_ _ | ((with_reducible refine Below.setCell ?_ ?_ _); rotate_left; focus (first | omega | (simp; done) | (simp; omega))) | ((with_reducible refine Below.alloc ?_ ?_ _); rotate_left; focus (first | omega | (simp; done) | (simp; omega)))))) hpl
    · exact HO3.out.thenBelow (by (repeat (first | with_reducible assumption | with_reducible exact Below.refl _ _ | with_reducible refine Below.drew ?_ | with_reducible refine belowDrewN ?_ _ | ((with_reducible refine Below.setCell ?_ ?_ _); rotate_left; focus (first | omega | (simp; done) | (simp; omega))) | ((with_reducible refine Below.alloc ?_ ?_ _); rotate_left; focus (first | omega | (simp; done) | (simp; omega))))))
  · go_wp2_with fail
    refine (l01Pick_lit _ _ pb a cap l _ HC1.out ?size (by decide) (by decide) ?texts).mono ?_
    case size => rfl
    case texts => exact Texts.of (by rfl)
    rintro e w2 ⟨x2, rfl, hx2, hc2, ho2⟩
    have hz2 := ho2.size
    have HZ2 := Lib.hid (HZ1.out.only ho2 (.inr (by omega)))
    have HC2 := Lib.hid hc2; clear hc2; have HO2 := Lib.hid ho2; clear ho2
    go_wp2_with fail
    refine (leafStr _ _ hx2).mono ?_
    rintro e w3 ⟨k3, n3, s3, a3, c3, m3, rfl, hi3, hm3, hw3, hb3⟩
    obtain ⟨r0, r1, r2, r3, g0, g1, g2, g3⟩ := HZ2.out.below hb3 (by omega)
    have hc3 := HC2.out.below hb3
    have ho3 := (HOO.out.trans HO2.out).thenBelow (hb3.mono (by omega))
    have HI3 := Lib.hid hi3; clear hi3; have HW3 := Lib.hid hw3; clear hw3; have HM3 := Lib.hid hm3; clear hm3; have HC3 := Lib.hid hc3; clear hc3; have HO3 := Lib.hid ho3; clear ho3; have HB3 := Lib.hid hb3; clear hb3
    go_wp2_with fail
    refine bodyPost_ret (v := .agg #[.int .i64 k3, .int .i64 n3, .string s3, .slice a3 m3.length c3]) (by simp [results, Tryd.results36, go_sem, r0, r1, r2, r3]) rfl ?_
    refine ⟨k3, n3, s3, [], a3, c3, m3, rfl, HI3.out, ?_, HW3.out, by simp [Dat.countL]; exact nB_pos _, ?_, ?_⟩
    · (exact M.Mine.mono (M.Mine.keep HM3.out (fun b hb1 hb2 => by (try simp at hb1); simp (disch := (first | omega | (simp; omega))) only [heapSet, heapNew, heapDrew, heapDrewN])) (by first | omega | (simp; done) | (simp; omega)))
    · exact HC3.out.belowB (B := w.heap.size) (by (repeat (first | with_reducible assumption | with_reducible exact Below.refl _ _ | with_reducible refine Below.drew ?_ | with_reducible refine belowDrewN ?_ _ | ((with_reducible refine Below.setCell ?_ ?_ _); rotate_left; focus (first | omega | (simp; done) | (simp; omega))) | ((with_reducible refine Below.alloc ?_ ?_ _); rotate_left; focus (first | omega | (simp; done) | (simp; omega)))))) hpl
    · exact HO3.out.thenBelow (by (repeat (first | with_reducible assumption | with_reducible exact Below.refl _ _ | with_reducible refine Below.drew ?_ | with_reducible refine belowDrewN ?_ _ | ((with_reducible refine Below.setCell ?_ ?_ _); rotate_left; focus (first | omega | (simp; done) | (simp; omega))) | ((with_reducible refine Below.alloc ?_ ?_ _); rotate_left; focus (first | omega | (simp; done) | (simp; omega))))))
  · go_wp2_with fail
    refine (l01Pick_lit _ _ pb a cap l _ HC1.out ?size (by decide) (by decide) ?texts).mono ?_
    case size => rfl
    case texts => exact Texts.of (by rfl)
    rintro e w2 ⟨x2, rfl, hx2, hc2, ho2⟩
    have hz2 := ho2.size
    have HZ2 := Lib.hid (HZ1.out.only ho2 (.inr (by omega)))
    have HC2 := Lib.hid hc2; clear hc2; have HO2 := Lib.hid ho2; clear ho2
    go_wp2_with fail
    refine (leafSym _ _ hx2).mono ?_
    rintro e w3 ⟨k3, n3, s3, a3, c3, m3, rfl, hi3, hm3, hw3, hb3⟩
    obtain ⟨r0, r1, r2, r3, g0, g1, g2, g3⟩ := HZ2.out.below hb3 (by omega)
    have hc3 := HC2.out.below hb3
    have ho3 := (HOO.out.trans HO2.out).thenBelow (hb3.mono (by omega))
    have HI3 := Lib.hid hi3; clear hi3; have HW3 := Lib.hid hw3; clear hw3; have HM3 := Lib.hid hm3; clear hm3; have HC3 := Lib.hid hc3; clear hc3; have HO3 := Lib.hid ho3; clear ho3; have HB3 := Lib.hid hb3; clear hb3
    go_wp2_with fail
    refine bodyPost_ret (v := .agg #[.int .i64 k3, .int .i64 n3, .string s3, .slice a3 m3.length c3]) (by simp [results, Tryd.results36, go_sem, r0, r1, r2, r3]) rfl ?_
    refine ⟨k3, n3, s3, [], a3, c3, m3, rfl, HI3.out, ?_, HW3.out, by simp [Dat.countL]; exact nB_pos _, ?_, ?_⟩
    · (exact M.Mine.mono (M.Mine.keep HM3.out (fun b hb1 hb2 => by (try simp at hb1); simp (disch := (first | omega | (simp; omega))) only [heapSet, heapNew, heapDrew, heapDrewN])) (by first | omega | (simp; done) | (simp; omega)))
    · exact HC3.out.belowB (B := w.heap.size) (by (repeat (first | with_reducible assumption | with_reducible exact Below.refl _ _ | with_reducible refine Below.drew ?_ | with_reducible refine belowDrewN ?_ _ | ((with_reducible refine Below.setCell ?_ ?_ _); rotate_left; focus (first | omega | (simp; done) | (simp; omega))) | ((with_reducible refine Below.alloc ?_ ?_ _); rotate_left; focus (first | omega | (simp; done) | (simp; omega)))))) hpl
    · exact HO3.out.thenBelow (by (repeat (first | with_reducible assumption | with_reducible exact Below.refl _ _ | with_reducible refine Below.drew ?_ | with_reducible refine belowDrewN ?_ _ | ((with_reducible refine Below.setCell ?_ ?_ _); rotate_left; focus (first | omega | (simp; done) | (simp; omega))) | ((with_reducible refine Below.alloc ?_ ?_ _); rotate_left; focus (first | omega | (simp; done) | (simp; omega))))))
  · go_wp2_with fail
    refine (l01Int_lit _ _ pb a cap l _ HC1.out ?size (by decide) (by decide) ?texts).mono ?_
    case size => rfl
    case texts => exact Nums.of (by rfl)
    rintro e w2 ⟨x2, rfl, hx2, hc2, ho2⟩
    have hz2 := ho2.size
    have HZ2 := Lib.hid (HZ1.out.only ho2 (.inr (by omega)))
    have HC2 := Lib.hid hc2; clear hc2; have HO2 := Lib.hid ho2; clear ho2
    go_wp2_with fail
    refine (leafNum _ _ hx2).mono ?_
    rintro e w3 ⟨k3, n3, s3, a3, c3, m3, rfl, hi3, hm3, hw3, hb3⟩
    obtain ⟨r0, r1, r2, r3, g0, g1, g2, g3⟩ := HZ2.out.below hb3 (by omega)
    have hc3 := HC2.out.below hb3
    have ho3 := (HOO.out.trans HO2.out).thenBelow (hb3.mono (by omega))
    have HI3 := Lib.hid hi3; clear hi3; have HW3 := Lib.hid hw3; clear hw3; have HM3 := Lib.hid hm3; clear hm3; have HC3 := Lib.hid hc3; clear hc3; have HO3 := Lib.hid ho3; clear ho3; have HB3 := Lib.hid hb3; clear hb3
    go_wp2_with fail
    refine bodyPost_ret (v := .agg #[.int .i64 k3, .int .i64 n3, .string s3, .slice a3 m3.length c3]) (by simp [results, Tryd.results36, go_sem, r0, r1, r2, r3]) rfl ?_
    refine ⟨k3, n3, s3, [], a3, c3, m3, rfl, HI3.out, ?_, HW3.out, by simp [Dat.countL]; exact nB_pos _, ?_, ?_⟩
    · (exact M.Mine.mono (M.Mine.keep HM3.out (fun b hb1 hb2 => by (try simp at hb1); simp (disch := (first | omega | (simp; omega))) only [heapSet, heapNew, heapDrew, heapDrewN])) (by first | omega | (simp; done) | (simp; omega)))
    · exact HC3.out.belowB (B := w.heap.size) (by (repeat (first | with_reducible assumption | with_reducible exact Below.refl _ _ | with_reducible refine Below.drew ?_ | with_reducible refine belowDrewN ?_ _ | ((with_reducible refine Below.setCell ?_ ?_ _); rotate_left; focus (first | omega | (simp; done) | (simp; omega))) | ((with_reducible refine Below.alloc ?_ ?_ _); rotate_left; focus (first | omega | (simp; done) | (simp; omega)))))) hpl
    · exact HO3.out.thenBelow (by (repeat (first | with_reducible assumption | with_reducible exact Below.refl _ _ | with_reducible refine Below.drew ?_ | with_reducible refine belowDrewN ?_ _ | ((with_reducible refine Below.setCell ?_ ?_ _); rotate_left; focus (first | omega | (simp; done) | (simp; omega))) | ((with_reducible refine Below.alloc ?_ ?_ _); rotate_left; focus (first | omega | (simp; done) | (simp; omega))))))
  · go_wp2_with fail
    refine (l01Int_lit _ _ pb a cap l _ HC1.out ?size (by decide) (by decide) ?texts).mono ?_
    case size => rfl
    case texts => exact Nums.of (by rfl)
    rintro e w2 ⟨x2, rfl, hx2, hc2, ho2⟩
    have hz2 := ho2.size
    have HZ2 := Lib.hid (HZ1.out.only ho2 (.inr (by omega)))
    have HC2 := Lib.hid hc2; clear hc2; have HO2 := Lib.hid ho2; clear ho2
    go_wp2_with fail
    refine (leafNum _ _ hx2).mono ?_
    rintro e w3 ⟨k3, n3, s3, a3, c3, m3, rfl, hi3, hm3, hw3, hb3⟩
    obtain ⟨r0, r1, r2, r3, g0, g1, g2, g3⟩ := HZ2.out.below hb3 (by omega)
    have hc3 := HC2.out.below hb3
    have ho3 := (HOO.out.trans HO2.out).thenBelow (hb3.mono (by omega))
    have HI3 := Lib.hid hi3; clear hi3; have HW3 := Lib.hid hw3; clear hw3; have HM3 := Lib.hid hm3; clear hm3; have HC3 := Lib.hid hc3; clear hc3; have HO3 := Lib.hid ho3; clear ho3; have HB3 := Lib.hid hb3; clear hb3
    go_wp2_with fail
    refine bodyPost_ret (v := .agg #[.int .i64 k3, .int .i64 n3, .string s3, .slice a3 m3.length c3]) (by simp [results, Tryd.results36, go_sem, r0, r1, r2, r3]) rfl ?_
    refine ⟨k3, n3, s3, [], a3, c3, m3, rfl, HI3.out, ?_, HW3.out, by simp [Dat.countL]; exact nB_pos _, ?_, ?_⟩
    · (exact M.Mine.mono (M.Mine.keep HM3.out (fun b hb1 hb2 => by (try simp at hb1); simp (disch := (first | omega | (simp; omega))) only [heapSet, heapNew, heapDrew, heapDrewN])) (by first | omega | (simp; done) | (simp; omega)))
    · exact HC3.out.belowB (B := w.heap.size) (by (repeat (first | with_reducible assumption | with_reducible exact Below.refl _ _ | with_reducible refine Below.drew ?_ | with_reducible refine belowDrewN ?_ _ | ((with_reducible refine Below.setCell ?_ ?_ _); rotate_left; focus (first | omega | (simp; done) | (simp; omega))) | ((with_reducible refine Below.alloc ?_ ?_ _); rotate_left; focus (first | omega | (simp; done) | (simp; omega)))))) hpl
    · exact HO3.out.thenBelow (by (repeat (first | with_reducible assumption | with_reducible exact Below.refl _ _ | with_reducible refine Below.drew ?_ | with_reducible refine belowDrewN ?_ _ | ((with_reducible refine Below.setCell ?_ ?_ _); rotate_left; focus (first | omega | (simp; done) | (simp; omega))) | ((with_reducible refine Below.alloc ?_ ?_ _); rotate_left; focus (first | omega | (simp; done) | (simp; omega))))))
theorem wfL_snoc : ∀ {ds : List Dat} {d : Dat}, Dat.wfL ds → d.wf → Dat.wfL (ds ++ [d])
  | [], _, _, h => ⟨h, trivial⟩
  | _ :: _, _, h, k => ⟨h.1, wfL_snoc h.2 k⟩
set_option maxHeartbeats 4000000 in
theorem l1Draw_deep (d : Nat) (hd0 : 0 < d) (hd9 : d ≤ 100) (ih : DrD d) : DrD (d + 1) := by
  intro pb a cap l w hc
  have hd1 : ¬ ((d + 1 : Nat) : Int) ≤ 1 := by omega
  have hd2 : ((d + 1 : Nat) : Int) - 1 = (d : Int) := by omega
  have IH := Lib.hid ih; clear ih
  have hpl := hc.lt
  have HC := Lib.hid hc; clear hc
  go_enter Tryd.func36, Tryd.ntmps36
  go_wp2_with fail
  refine (l01Below_calls 9 pb a cap l _ (HC.out.below (by (repeat (first | with_reducible assumption | with_reducible exact Below.refl _ _ | with_reducible refine Below.drew ?_ | with_reducible refine belowDrewN ?_ _ | ((with_reducible refine Below.setCell ?_ ?_ _); rotate_left; focus (first | omega | (simp; done) | (simp; omega))) | ((with_reducible refine Below.alloc ?_ ?_ _); rotate_left; focus (first | omega | (simp; done) | (simp; omega))))))) (by decide) (by decide)).mono ?_
  rintro e w1 ⟨x, rfl, hx0, hx1, hc1, ho1⟩
  have hz1 := ho1.size
  simp only [World.size_alloc] at hz1
  have hzz := (Zero.new w).only ho1 (.inr (by omega))
  have hoo : OnlyIn pb (pb + 1) w w1 := ((OnlyIn.refl _ _ _).new _).trans ho1
  have HZ1 := Lib.hid hzz; clear hzz
  have HC1 := Lib.hid hc1; clear hc1; have HO1 := Lib.hid ho1; clear ho1; have HOO := Lib.hid hoo; clear hoo
  by_cases hx5 : x ≤ 5
  · have hx : x = 0 ∨ x = 1 ∨ x = 2 ∨ x = 3 ∨ x = 4 ∨ x = 5 := by omega
    clear hx0 hx1 hx5
    rcases hx with rfl | rfl | rfl | rfl | rfl | rfl
    · go_wp2_with fail
      refine (l01Pick_lit _ _ pb a cap l _ HC1.out ?size (by decide) (by decide) ?texts).mono ?_
      case size => rfl
      case texts => exact Texts.of (by rfl)
      rintro e w2 ⟨x2, rfl, hx2, hc2, ho2⟩
      have hz2 := ho2.size
      have HZ2 := Lib.hid (HZ1.out.only ho2 (.inr (by omega)))
      have HC2 := Lib.hid hc2; clear hc2; have HO2 := Lib.hid ho2; clear ho2
      go_wp2_with fail
      refine (leafSym _ _ hx2).mono ?_
      rintro e w3 ⟨k3, n3, s3, a3, c3, m3, rfl, hi3, hm3, hw3, hb3⟩
      obtain ⟨r0, r1, r2, r3, g0, g1, g2, g3⟩ := HZ2.out.below hb3 (by omega)
      have hc3 := HC2.out.below hb3
      have ho3 := (HOO.out.trans HO2.out).thenBelow (hb3.mono (by omega))
      have HI3 := Lib.hid hi3; clear hi3; have HW3 := Lib.hid hw3; clear hw3; have HM3 := Lib.hid hm3; clear hm3; have HC3 := Lib.hid hc3; clear hc3; have HO3 := Lib.hid ho3; clear ho3; have HB3 := Lib.hid hb3; clear hb3
      go_wp2_with fail
      refine bodyPost_ret (v := .agg #[.int .i64 k3, .int .i64 n3, .string s3, .slice a3 m3.length c3]) (by simp [results, Tryd.results36, go_sem, r0, r1, r2, r3]) rfl ?_
      refine ⟨k3, n3, s3, [], a3, c3, m3, rfl, HI3.out, ?_, HW3.out, by simp [Dat.countL]; exact nB_pos _, ?_, ?_⟩
      · (exact M.Mine.mono (M.Mine.keep HM3.out (fun b hb1 hb2 => by (try simp at hb1); simp (disch := (first | omega | (simp; omega))) only [heapSet, heapNew, heapDrew, heapDrewN])) (by first | omega | (simp; done) | (simp; omega)))
      · exact HC3.out.belowB (B := w.heap.size) (by (repeat (first | with_reducible assumption | with_reducible exact Below.refl _ _ | with_reducible refine Below.drew ?_ | with_reducible refine belowDrewN ?_ _ | ((with_reducible refine Below.setCell ?_ ?_ _); rotate_left; focus (first | omega | (simp; done) | (simp; omega))) | ((with_reducible refine Below.alloc ?_ ?_ _); rotate_left; focus (first | omega | (simp; done) | (simp; omega)))))) hpl
      · exact HO3.out.thenBelow (by (repeat (first | with_reducible assumption | with_reducible exact Below.refl _ _ | with_reducible refine Below.drew ?_ | with_reducible refine belowDrewN ?_ _ | ((with_reducible refine Below.setCell ?_ ?_ _); rotate_left; focus (first | omega | (simp; done) | (simp; omega))) | ((with_reducible refine Below.alloc ?_ ?_ _); rotate_left; focus (first | omega | (simp; done) | (simp; omega))))))
    · go_wp2_with fail
      refine (l01Pick_lit _ _ pb a cap l _ HC1.out ?size (by decide) (by decide) ?texts).mono ?_
      case size => rfl
      case texts => exact Texts.of (by rfl)
      rintro e w2 ⟨x2, rfl, hx2, hc2, ho2⟩
      have hz2 := ho2.size
      have HZ2 := Lib.hid (HZ1.out.only ho2 (.inr (by omega)))
      have HC2 := Lib.hid hc2; clear hc2; have HO2 := Lib.hid ho2; clear ho2
      go_wp2_with fail
      refine (leafSym _ _ hx2).mono ?_
      rintro e w3 ⟨k3, n3, s3, a3, c3, m3, rfl, hi3, hm3, hw3, hb3⟩
      obtain ⟨r0, r1, r2, r3, g0, g1, g2, g3⟩ := HZ2.out.below hb3 (by omega)
      have hc3 := HC2.out.below hb3
      have ho3 := (HOO.out.trans HO2.out).thenBelow (hb3.mono (by omega))
      have HI3 := Lib.hid hi3; clear hi3; have HW3 := Lib.hid hw3; clear hw3; have HM3 := Lib.hid hm3; clear hm3; have HC3 := Lib.hid hc3; clear hc3; have HO3 := Lib.hid ho3; clear ho3; have HB3 := Lib.hid hb3; clear hb3
      go_wp2_with fail
      refine bodyPost_ret (v := .agg #[.int .i64 k3, .int .i64 n3, .string s3, .slice a3 m3.length c3]) (by simp [results, Tryd.results36, go_sem, r0, r1, r2, r3]) rfl ?_
      refine ⟨k3, n3, s3, [], a3, c3, m3, rfl, HI3.out, ?_, HW3.out, by simp [Dat.countL]; exact nB_pos _, ?_, ?_⟩
      · (exact M.Mine.mono (M.Mine.keep HM3.out (fun b hb1 hb2 => by (try simp at hb1); simp (disch := (first | omega | (simp; omega))) only [heapSet, heapNew, heapDrew, heapDrewN])) (by first | omega | (simp; done) | (simp; omega)))
      · exact HC3.out.belowB (B := w.heap.size) (by (repeat (first | with_reducible assumption | with_reducible exact Below.refl _ _ | with_reducible refine Below.drew ?_ | with_reducible refine belowDrewN ?_ _ | ((with_reducible refine Below.setCell ?_ ?_ _); rotate_left; focus (first | omega | (simp; done) | (simp; omega))) | ((with_reducible refine Below.alloc ?_ ?_ _); rotate_left; focus (first | omega | (simp; done) | (simp; omega)))))) hpl
      · exact HO3.out.thenBelow (by (repeat (first | with_reducible assumption | with_reducible exact Below.refl _ _ | with_reducible refine Below.drew ?_ | with_reducible refine belowDrewN ?_ _ | ((with_reducible refine Below.setCell ?_ ?_ _); rotate_left; focus (first | omega | (simp; done) | (simp; omega))) | ((with_reducible refine Below.alloc ?_ ?_ _); rotate_left; focus (first | omega | (simp; done) | (simp; omega))))))
    · go_wp2_with fail
      refine (l01Int_lit _ _ pb a cap l _ HC1.out ?size (by decide) (by decide) ?texts).mono ?_
      case size => rfl
      case texts => exact Nums.of (by rfl)
      rintro e w2 ⟨x2, rfl, hx2, hc2, ho2⟩
      have hz2 := ho2.size
      have HZ2 := Lib.hid (HZ1.out.only ho2 (.inr (by omega)))
      have HC2 := Lib.hid hc2; clear hc2; have HO2 := Lib.hid ho2; clear ho2
      go_wp2_with fail
      refine (leafNum _ _ hx2).mono ?_
      rintro e w3 ⟨k3, n3, s3, a3, c3, m3, rfl, hi3, hm3, hw3, hb3⟩
      obtain ⟨r0, r1, r2, r3, g0, g1, g2, g3⟩ := HZ2.out.below hb3 (by omega)
      have hc3 := HC2.out.below hb3
      have ho3 := (HOO.out.trans HO2.out).thenBelow (hb3.mono (by omega))
      have HI3 := Lib.hid hi3; clear hi3; have HW3 := Lib.hid hw3; clear hw3; have HM3 := Lib.hid hm3; clear hm3; have HC3 := Lib.hid hc3; clear hc3; have HO3 := Lib.hid ho3; clear ho3; have HB3 := Lib.hid hb3; clear hb3
      go_wp2_with fail
      refine bodyPost_ret (v := .agg #[.int .i64 k3, .int .i64 n3, .string s3, .slice a3 m3.length c3]) (by simp [results, Tryd.results36, go_sem, r0, r1, r2, r3]) rfl ?_
      refine ⟨k3, n3, s3, [], a3, c3, m3, rfl, HI3.out, ?_, HW3.out, by simp [Dat.countL]; exact nB_pos _, ?_, ?_⟩
      · (exact M.Mine.mono (M.Mine.keep HM3.out (fun b hb1 hb2 => by (try simp at hb1); simp (disch := (first | omega | (simp; omega))) only [heapSet, heapNew, heapDrew, heapDrewN])) (by first | omega | (simp; done) | (simp; omega)))
      · exact HC3.out.belowB (B := w.heap.size) (by (repeat (first | with_reducible assumption | with_reducible exact Below.refl _ _ | with_reducible refine Below.drew ?_ | with_reducible refine belowDrewN ?_ _ | ((with_reducible refine Below.setCell ?_ ?_ _); rotate_left; focus (first | omega | (simp; done) | (simp; omega))) | ((with_reducible refine Below.alloc ?_ ?_ _); rotate_left; focus (first | omega | (simp; done) | (simp; omega)))))) hpl
      · exact HO3.out.thenBelow (by (repeat (first | with_reducible assumption | with_reducible exact Below.refl _ _ | with_reducible refine Below.drew ?_ | with_reducible refine belowDrewN ?_ _ | ((with_reducible refine Below.setCell ?_ ?_ _); rotate_left; focus (first | omega | (simp; done) | (simp; omega))) | ((with_reducible refine Below.alloc ?_ ?_ _); rotate_left; focus (first | omega | (simp; done) | (simp; omega))))))
    · go_wp2_with fail
      refine (l01Int_lit _ _ pb a cap l _ HC1.out ?size (by decide) (by decide) ?texts).mono ?_
      case size => rfl
      case texts => exact Nums.of (by rfl)
      rintro e w2 ⟨x2, rfl, hx2, hc2, ho2⟩
      have hz2 := ho2.size
      have HZ2 := Lib.hid (HZ1.out.only ho2 (.inr (by omega)))
      have HC2 := Lib.hid hc2; clear hc2; have HO2 := Lib.hid ho2; clear ho2
      go_wp2_with fail
      refine (leafNum _ _ hx2).mono ?_
      rintro e w3 ⟨k3, n3, s3, a3, c3, m3, rfl, hi3, hm3, hw3, hb3⟩
      obtain ⟨r0, r1, r2, r3, g0, g1, g2, g3⟩ := HZ2.out.below hb3 (by omega)
      have hc3 := HC2.out.below hb3
      have ho3 := (HOO.out.trans HO2.out).thenBelow (hb3.mono (by omega))
      have HI3 := Lib.hid hi3; clear hi3; have HW3 := Lib.hid hw3; clear hw3; have HM3 := Lib.hid hm3; clear hm3; have HC3 := Lib.hid hc3; clear hc3; have HO3 := Lib.hid ho3; clear ho3; have HB3 := Lib.hid hb3; clear hb3
      go_wp2_with fail
      refine bodyPost_ret (v := .agg #[.int .i64 k3, .int .i64 n3, .string s3, .slice a3 m3.length c3]) (by simp [results, Tryd.results36, go_sem, r0, r1, r2, r3]) rfl ?_
      refine ⟨k3, n3, s3, [], a3, c3, m3, rfl, HI3.out, ?_, HW3.out, by simp [Dat.countL]; exact nB_pos _, ?_, ?_⟩
      · (exact M.Mine.mono (M.Mine.keep HM3.out (fun b hb1 hb2 => by (try simp at hb1); simp (disch := (first | omega | (simp; omega))) only [heapSet, heapNew, heapDrew, heapDrewN])) (by first | omega | (simp; done) | (simp; omega)))
      · exact HC3.out.belowB (B := w.heap.size) (by (repeat (first | with_reducible assumption | with_reducible exact Below.refl _ _ | with_reducible refine Below.drew ?_ | with_reducible refine belowDrewN ?_ _ | ((with_reducible refine Below.setCell ?_ ?_ _); rotate_left; focus (first | omega | (simp; done) | (simp; omega))) | ((with_reducible refine Below.alloc ?_ ?_ _); rotate_left; focus (first | omega | (simp; done) | (simp; omega)))))) hpl
      · exact HO3.out.thenBelow (by (repeat (first | with_reducible assumption | with_reducible exact Below.refl _ _ | with_reducible refine Below.drew ?_ | with_reducible refine belowDrewN ?_ _ | ((with_reducible refine Below.setCell ?_ ?_ _); rotate_left; focus (first | omega | (simp; done) | (simp; omega))) | ((with_reducible refine Below.alloc ?_ ?_ _); rotate_left; focus (first | omega | (simp; done) | (simp; omega))))))
    · go_wp2_with fail
      refine (l01Once_calls _ pb a cap l _ HC1.out (by decide) (by decide)).mono ?_
      rintro e w2 ⟨x2, rfl, hc2, ho2⟩
      have hz2 := ho2.size
      have HZ2 := Lib.hid (HZ1.out.only ho2 (.inr (by omega)))
      have HC2 := Lib.hid hc2; clear hc2; have HO2 := Lib.hid ho2; clear ho2
      go_wp2_with fail
      refine (leafBool _ _).mono ?_
      rintro e w3 ⟨k3, n3, s3, a3, c3, m3, rfl, hi3, hm3, hw3, hb3⟩
      obtain ⟨r0, r1, r2, r3, g0, g1, g2, g3⟩ := HZ2.out.below hb3 (by omega)
      have hc3 := HC2.out.below hb3
      have ho3 := (HOO.out.trans HO2.out).thenBelow (hb3.mono (by omega))
      have HI3 := Lib.hid hi3; clear hi3; have HW3 := Lib.hid hw3; clear hw3; have HM3 := Lib.hid hm3; clear hm3; have HC3 := Lib.hid hc3; clear hc3; have HO3 := Lib.hid ho3; clear ho3; have HB3 := Lib.hid hb3; clear hb3
      go_wp2_with fail
      refine bodyPost_ret (v := .agg #[.int .i64 k3, .int .i64 n3, .string s3, .slice a3 m3.length c3]) (by simp [results, Tryd.results36, go_sem, r0, r1, r2, r3]) rfl ?_
      refine ⟨k3, n3, s3, [], a3, c3, m3, rfl, HI3.out, ?_, HW3.out, by simp [Dat.countL]; exact nB_pos _, ?_, ?_⟩
      · (exact M.Mine.mono (M.Mine.keep HM3.out (fun b hb1 hb2 => by (try simp at hb1); simp (disch := (first | omega | (simp; omega))) only [heapSet, heapNew, heapDrew, heapDrewN])) (by first | omega | (simp; done) | (simp; omega)))
      · exact HC3.out.belowB (B := w.heap.size) (by (repeat (first | with_reducible assumption | with_reducible exact Below.refl _ _ | with_reducible refine Below.drew ?_ | with_reducible refine belowDrewN ?_ _ | ((with_reducible refine Below.setCell ?_ ?_ _); rotate_left; focus (first | omega | (simp; done) | (simp; omega))) | ((with_reducible refine Below.alloc ?_ ?_ _); rotate_left; focus (first | omega | (simp; done) | (simp; omega)))))) hpl
      · exact HO3.out.thenBelow (by (repeat (first | with_reducible assumption | with_reducible exact Below.refl _ _ | with_reducible refine Below.drew ?_ | with_reducible refine belowDrewN ?_ _ | ((with_reducible refine Below.setCell ?_ ?_ _); rotate_left; focus (first | omega | (simp; done) | (simp; omega))) | ((with_reducible refine Below.alloc ?_ ?_ _); rotate_left; focus (first | omega | (simp; done) | (simp; omega))))))
    · go_wp2_with fail
      refine (l01Pick_lit _ _ pb a cap l _ HC1.out ?size (by decide) (by decide) ?texts).mono ?_
      case size => rfl
      case texts => exact Texts.of (by rfl)
      rintro e w2 ⟨x2, rfl, hx2, hc2, ho2⟩
      have hz2 := ho2.size
      have HZ2 := Lib.hid (HZ1.out.only ho2 (.inr (by omega)))
      have HC2 := Lib.hid hc2; clear hc2; have HO2 := Lib.hid ho2; clear ho2
      go_wp2_with fail
      refine (leafStr _ _ hx2).mono ?_
      rintro e w3 ⟨k3, n3, s3, a3, c3, m3, rfl, hi3, hm3, hw3, hb3⟩
      obtain ⟨r0, r1, r2, r3, g0, g1, g2, g3⟩ := HZ2.out.below hb3 (by omega)
      have hc3 := HC2.out.below hb3
      have ho3 := (HOO.out.trans HO2.out).thenBelow (hb3.mono (by omega))
      have HI3 := Lib.hid hi3; clear hi3; have HW3 := Lib.hid hw3; clear hw3; have HM3 := Lib.hid hm3; clear hm3; have HC3 := Lib.hid hc3; clear hc3; have HO3 := Lib.hid ho3; clear ho3; have HB3 := Lib.hid hb3; clear hb3
      go_wp2_with fail
      refine bodyPost_ret (v := .agg #[.int .i64 k3, .int .i64 n3, .string s3, .slice a3 m3.length c3]) (by simp [results, Tryd.results36, go_sem, r0, r1, r2, r3]) rfl ?_
      refine ⟨k3, n3, s3, [], a3, c3, m3, rfl, HI3.out, ?_, HW3.out, by simp [Dat.countL]; exact nB_pos _, ?_, ?_⟩
      · (exact M.Mine.mono (M.Mine.keep HM3.out (fun b hb1 hb2 => by (try simp at hb1); simp (disch := (first | omega | (simp; omega))) only [heapSet, heapNew, heapDrew, heapDrewN])) (by first | omega | (simp; done) | (simp; omega)))
      · exact HC3.out.belowB (B := w.heap.size) (by (repeat (first | with_reducible assumption | with_reducible exact Below.refl _ _ | with_reducible refine Below.drew ?_ | with_reducible refine belowDrewN ?_ _ | ((with_reducible refine Below.setCell ?_ ?_ _); rotate_left; focus (first | omega | (simp; done) | (simp; omega))) | ((with_reducible refine Below.alloc ?_ ?_ _); rotate_left; focus (first | omega | (simp; done) | (simp; omega)))))) hpl
      · exact HO3.out.thenBelow (by (repeat (first | with_reducible assumption | with_reducible exact Below.refl _ _ | with_reducible refine Below.drew ?_ | with_reducible refine belowDrewN ?_ _ | ((with_reducible refine Below.setCell ?_ ?_ _); rotate_left; focus (first | omega | (simp; done) | (simp; omega))) | ((with_reducible refine Below.alloc ?_ ?_ _); rotate_left; focus (first | omega | (simp; done) | (simp; omega))))))
  · have y0 : (x == 0) = false := by simp; omega
    have y1 : (x == 1) = false := by simp; omega
    have y2 : (x == 2) = false := by simp; omega
    have y3 : (x == 3) = false := by simp; omega
    have y4 : (x == 4) = false := by simp; omega
    have y5 : (x == 5) = false := by simp; omega
    have HX5 := Lib.hid hx5; clear hx5; have HX0 := Lib.hid hx0; clear hx0; have HX1 := Lib.hid hx1; clear hx1
    go_wp2_with fail
    refine (l01Below_calls 5 pb a cap l _ (HC1.out.below (by (repeat (first | with_reducible assumption | with_reducible exact Below.refl _ _ | with_reducible refine Below.drew ?_ | with_reducible refine belowDrewN ?_ _ | ((with_reducible refine Below.setCell ?_ ?_ _); rotate_left; focus (first | omega | (simp; done) | (simp; omega))) | ((with_reducible refine Below.alloc ?_ ?_ _); rotate_left; focus (first | omega | (simp; done) | (simp; omega))))))) (by decide) (by decide)).mono ?_
    rintro e w2 ⟨y, rfl, hy0, hy1, hc2, ho2⟩
    obtain ⟨n0, rfl⟩ := Int.eq_ofNat_of_zero_le hy0
    have hz2 := ho2.size
    simp only [World.size_alloc] at hz2
    have hn4 : n0 ≤ 4 := by omega
    have ho12 : OnlyIn pb (pb + 1) w1 w2 := ((OnlyIn.refl _ _ _).new _).trans ho2
    have hz0 : Zero w.heap.size w2 := HZ1.out.only ho12 (.inr (by omega))
    have hzB : Zero w1.heap.size w2 := (Zero.new w1).only ho2 (.inr (by omega))
    have hzBs : w2.cell? ⟨w1.heap.size, 0, none⟩ = some (.int .i64 0) ∧ w2.cell? ⟨w1.heap.size, 1, none⟩ = some (.int .i64 0) ∧ w2.cell? ⟨w1.heap.size, 2, none⟩ = some (.string ⟨#[]⟩) ∧ w2.cell? ⟨w1.heap.size, 3, none⟩ = some (.slice none 0 0) ∧ w2.frozen? ⟨w1.heap.size, 3, none⟩ = false := ⟨hzB.c0, hzB.c1, hzB.c2, hzB.c3, hzB.f3⟩
    have ho02 : OnlyIn pb (pb + 1) w w2 := HOO.out.trans ho12
    have hwl : Dat.wfL [] := trivial
    clear hy0 hy1
    have HC2 := Lib.hid hc2; clear hc2; have HO2 := Lib.hid ho2; clear ho2; have HO12 := Lib.hid ho12; clear ho12; have HZ0 := Lib.hid hz0; clear hz0; have HZB := Lib.hid hzB; clear hzB; have HZBS := Lib.hid hzBs; clear hzBs; have HO02 := Lib.hid ho02; clear ho02
    go_wp2_with fail
    go_loopw [7] (fun i wr => ∃ (n : Nat) (a' : Option Addr) (cap' : Nat) (ms' : List M) (ds' : List Dat), i = .int .i64 n ∧ ms'.length + n ≤ 4 ∧ Dat.IsL 40 ds' ms' ∧ (M.sl a' cap' 4 40 ms').Mine wr (w1.heap.size + 1) ∧ Dat.wfL ds' ∧ Dat.countL ds' ≤ ms'.length * nB d ∧
        (wr.cell? ⟨w1.heap.size, 0, none⟩ = some (.int .i64 0) ∧ wr.cell? ⟨w1.heap.size, 1, none⟩ = some (.int .i64 0) ∧ wr.cell? ⟨w1.heap.size, 2, none⟩ = some (.string ⟨#[]⟩) ∧ wr.cell? ⟨w1.heap.size, 3, none⟩ = some (.slice a' ms'.length cap') ∧ wr.frozen? ⟨w1.heap.size, 3, none⟩ = false) ∧
        Zero w.heap.size wr ∧ Cur pb a cap l wr ∧ OnlyIn pb (pb + 1) w wr ∧ w1.heap.size + 1 ≤ wr.heap.size) (fun i _ => (intOf i).toNat)
    case atStart => exact ⟨n0, none, 0, [], [], rfl, by simpa using hn4, by simp [Dat.IsL], M.Mine.nil _ _ _ _ (by decide), trivial, by simp [Dat.countL], HZBS.out, HZ0.out, HC2.out, HO02.out, by omega⟩
    case round =>
      obtain ⟨n, a', cap', ms', ds', rfl, hnm, hi', hm', hwl', hct', ⟨q0, q1, q2, q3, qf⟩, hzr, hcr, hor, hsz⟩ := hrel
      have p3 : w1.heap.size < wr.heap.size := by omega
      have hcap' := hm'.in_.len
      cases n with
      | zero =>
        have hwfin : (Dat.mk 0 0 ⟨#[]⟩ ds').wf := ⟨by unfold I64; omega, by unfold I64; omega, by decide, hwl'⟩
        have hcfin : 1 + Dat.countL ds' ≤ nB (d + 1) := by
          have := Nat.mul_le_mul_right (nB d) (show ms'.length ≤ 4 by omega)
          simp only [nB]; omega
        obtain ⟨r0, r1, r2, r3, g0, g1, g2, g3⟩ := hzr
        have HI' := Lib.hid hi'; clear hi'; have HM' := Lib.hid hm'; clear hm'; have HWL' := Lib.hid hwl'; clear hwl'; have HCT' := Lib.hid hct'; clear hct'; have HCR := Lib.hid hcr; clear hcr; have HOR := Lib.hid hor; clear hor; have HWFIN := Lib.hid hwfin; clear hwfin; have HCFIN := Lib.hid hcfin; clear hcfin; have HNM := Lib.hid hnm; clear hnm
        go_wp2_with fail
        refine bodyPost_ret (v := .agg #[.int .i64 0, .int .i64 0, .string ⟨#[]⟩, .slice a' ms'.length cap']) (by simp [results, Tryd.results36, go_sem, r0, r1, r2, r3]) rfl ?_
        refine ⟨0, 0, ⟨#[]⟩, ds', a', cap', ms', rfl, HI'.out, ?_, HWFIN.out, HCFIN.out, ?_, ?_⟩
        · (exact M.Mine.mono (M.Mine.keep HM'.out (fun b hb1 hb2 => by (try simp at hb1); simp (disch := (first | omega | (simp; omega))) only [heapSet, heapNew, heapDrew, heapDrewN])) (by first | omega | (simp; done) | (simp; omega)))
        · exact HCR.out.belowB (B := w.heap.size) (by (repeat (first | with_reducible assumption | with_reducible exact Below.refl _ _ | with_reducible refine Below.drew ?_ | with_reducible refine belowDrewN ?_ _ | ((with_reducible refine Below.setCell ?_ ?_ _); rotate_left; focus (first | omega | (simp; done) | (simp; omega))) | ((with_reducible refine Below.alloc ?_ ?_ _); rotate_left; focus (first | omega | (simp; done) | (simp; omega)))))) hpl
        · exact HOR.out.thenBelow (by (repeat (first | with_reducible assumption | with_reducible exact Below.refl _ _ | with_reducible refine Below.drew ?_ | with_reducible refine belowDrewN ?_ _ | ((with_reducible refine Below.setCell ?_ ?_ _); rotate_left; focus (first | omega | (simp; done) | (simp; omega))) | ((with_reducible refine Below.alloc ?_ ?_ _); rotate_left; focus (first | omega | (simp; done) | (simp; omega))))))
      | succ n =>
        have hpos : 0 < ((n + 1 : Nat) : Int) := by omega
        have hn9 : n ≤ 3 := by omega
        have hwd : IntKind.i64.wrap (d : Int) = (d : Int) := by rw [IntKind.wrap_i64]; omega
        have HI' := Lib.hid hi'; clear hi'; have HM' := Lib.hid hm'; clear hm'; have HWL' := Lib.hid hwl'; clear hwl'; have HCT' := Lib.hid hct'; clear hct'; have HCR := Lib.hid hcr; clear hcr; have HOR := Lib.hid hor; clear hor; have HZR := Lib.hid hzr; clear hzr; have HNM := Lib.hid hnm; clear hnm
        go_wp2_with fail
        go_region_law (first
          | (go_simp; go_at_call 36; (try simp only [hwd]); refine (IH.out pb a cap l _ (HCR.out.below (by (repeat (first | with_reducible assumption | with_reducible exact Below.refl _ _ | with_reducible refine Below.drew ?_ | with_reducible refine belowDrewN ?_ _ | ((with_reducible refine Below.setCell ?_ ?_ _); rotate_left; focus (first | omega | (simp; done) | (simp; omega))) | ((with_reducible refine Below.alloc ?_ ?_ _); rotate_left; focus (first | omega | (simp; done) | (simp; omega)))))))).mono ?_; rintro e w4 ⟨k4, n4, s4, ds4, a4, cap4, ms4, rfl, hi4, hm4, hw4, hct4, hc4, ho4⟩; have ho4' : OnlyIn pb (pb + 1) wr w4 := (by first | exact ho4 | exact ((OnlyIn.refl _ _ _).drew).trans ho4 | exact ((OnlyIn.refl _ _ _).drewN _).trans ho4); have hz4 := ho4'.size; have p3c : w1.heap.size < w4.heap.size := (by omega); have q3c : w4.cell? ⟨w1.heap.size, 3, none⟩ = some (.slice a' ms'.length cap') := ((World.cell?_of_block (ho4'.block w1.heap.size p3 (.inr (by omega)))).trans q3); have qfc : w4.frozen? ⟨w1.heap.size, 3, none⟩ = false := ((World.frozen?_of_block (ho4'.block w1.heap.size p3 (.inr (by omega)))).trans qf))
          | (refine step_push3 (wr := wr) rfl _ _ 32 rfl 40 _ 4 56 Tryd.underlying32 infoDat rfl (by decide) (w1.heap.size + 1) a' cap' ms' rfl HM'.out hsz hz4 (fun b h1 h2 => ho4'.block b h2 (.inr (by omega))) _ (.ag [.c (.int .i64 k4), .c (.int .i64 n4), .c (.string s4), .sl a4 cap4 4 40 ms4]) rfl rfl _ (Dat.mine hm4) (by first | exact Nat.le_refl _ | (simp; done)) rfl (by have := HNM.out; unfold maxLen; omega) (by have := HNM.out; omega) ?_; intro a5 cap5 w5 hm5 hb5 hz5 hfr5; have p5c : w1.heap.size < w5.heap.size := (by omega); have q3' : w5.cell? ⟨w1.heap.size, 3, none⟩ = some (.slice a' ms'.length cap') := ((World.cell?_of_block (hb5.block w1.heap.size (by omega))).trans q3c); have qf' : w5.frozen? ⟨w1.heap.size, 3, none⟩ = false := ((World.frozen?_of_block (hb5.block w1.heap.size (by omega))).trans qfc)))
        all_goals
          have kB := (hb5.block w1.heap.size (by omega)).trans (ho4'.block w1.heap.size p3 (.inr (by omega)))
          have q0' : w5.cell? ⟨w1.heap.size, 0, none⟩ = some (.int .i64 0) := (World.cell?_of_block kB).trans q0
          have q1' : w5.cell? ⟨w1.heap.size, 1, none⟩ = some (.int .i64 0) := (World.cell?_of_block kB).trans q1
          have q2' : w5.cell? ⟨w1.heap.size, 2, none⟩ = some (.string ⟨#[]⟩) := (World.cell?_of_block kB).trans q2
          have hzr5 := HZR.out.of ((hb5.block w.heap.size (by omega)).trans (ho4'.block w.heap.size (by omega) (.inr (by omega))))
          have hc5 := hc4.belowB hb5 (by omega)
          have ho5 := (HOR.out.trans ho4').thenBelow (hb5.mono (by omega))
          have hi5 : Dat.IsL 40 (ds' ++ [.mk k4 n4 s4 ds4]) (ms' ++ [.ag [.c (.int .i64 k4), .c (.int .i64 n4), .c (.string s4), .sl a4 cap4 4 40 ms4]]) := HI'.out.snoc ⟨_, _, _, rfl, hi4⟩
          have hlen5 : (ms' ++ [M.ag [.c (.int .i64 k4), .c (.int .i64 n4), .c (.string s4), .sl a4 cap4 4 40 ms4]]).length = ms'.length + 1 := by simp
          have hct5 : Dat.countL (ds' ++ [.mk k4 n4 s4 ds4]) ≤ (ms'.length + 1) * nB d := by
            have := HCT'.out
            rw [Dat.countL_append, Nat.succ_mul]; simp only [Dat.countL, Dat.count]; omega
          have hwl5 : Dat.wfL (ds' ++ [.mk k4 n4 s4 ds4]) := wfL_snoc HWL'.out hw4
          have HM5 := Lib.hid hm5; clear hm5; have HI5 := Lib.hid hi5; clear hi5; have HCT5 := Lib.hid hct5; clear hct5; have HWL5 := Lib.hid hwl5; clear hwl5; have HZR5 := Lib.hid hzr5; clear hzr5; have HC5 := Lib.hid hc5; clear hc5; have HO5 := Lib.hid ho5; clear ho5; have HI4 := Lib.hid hi4; clear hi4; have HM4 := Lib.hid hm4; clear hm4; have HW4 := Lib.hid hw4; clear hw4; have HCT4 := Lib.hid hct4; clear hct4; have HC4 := Lib.hid hc4; clear hc4; have HO4 := Lib.hid ho4; clear ho4; have HO4' := Lib.hid ho4'; clear ho4'; have HFR5 := Lib.hid hfr5; clear hfr5
          go_wp2_with fail
          go_roundw
          case rel =>
            refine ⟨n, a5, cap5, ms' ++ [.ag [.c (.int .i64 k4), .c (.int .i64 n4), .c (.string s4), .sl a4 cap4 4 40 ms4]], ds' ++ [.mk k4 n4 s4 ds4], by go_num, by have := HNM.out; simp; omega, HI5.out, ?_, HWL5.out, by rw [hlen5]; exact HCT5.out, ?_, ?_, ?_, ?_, ?_⟩
            · exact M.Mine.keep HM5.out (fun b hb1 hb2 => by simp (disch := (first | omega | (simp; omega))) only [heapSet])
            · simp [go_sem, q0', q1', q2', q3', qf']
            · exact HZR5.out.of (by simp (disch := (first | omega | (simp; omega))) only [heapSet])
            · exact HC5.out.belowB (B := w.heap.size) (by (repeat (first | with_reducible assumption | with_reducible exact Below.refl _ _ | with_reducible refine Below.drew ?_ | with_reducible refine belowDrewN ?_ _ | ((with_reducible refine Below.setCell ?_ ?_ _); rotate_left; focus (first | omega | (simp; done) | (simp; omega))) | ((with_reducible refine Below.alloc ?_ ?_ _); rotate_left; focus (first | omega | (simp; done) | (simp; omega)))))) hpl
            · exact HO5.out.thenBelow (by (repeat (first | with_reducible assumption | with_reducible exact Below.refl _ _ | with_reducible refine Below.drew ?_ | with_reducible refine belowDrewN ?_ _ | ((with_reducible refine Below.setCell ?_ ?_ _); rotate_left; focus (first | omega | (simp; done) | (simp; omega))) | ((with_reducible refine Below.alloc ?_ ?_ _); rotate_left; focus (first | omega | (simp; done) | (simp; omega))))))
            · simp; omega
          case measure => first | (simp [intOf]; done) | (simp [intOf]; omega)
theorem l1Draw_calls : ∀ d, d ≤ 100 → DrD d
  | 0, _ => l1Draw_leaf 0 (by decide)
  | 1, _ => l1Draw_leaf 1 (by decide)
  | d + 2, h => l1Draw_deep (d + 1) (by omega) (by omega) (l1Draw_calls (d + 1) (by omega))
end Go.Proofs.YtghbnehocggnnaaDoor

/-
  Walks: data drawn, not valid sometimes. No condition.
-/
set_option linter.unusedVariables false
set_option linter.unusedSimpArgs false
set_option maxRecDepth 100000
namespace Go.Proofs.YtghbnehocggnnaaDoor
open Go.RowKit

theorem countL_snocD (ds : List Dat) (d : Dat) : Dat.countL (ds ++ [d]) = Dat.countL ds + d.count := by
  induction ds with
  | nil => simp [Dat.countL]
  | cons e r ih => simp only [List.cons_append, Dat.countL, ih]; omega
theorem DBox.set0 {b : Nat} {k n : Int} {s : ByteArray} {v : Value} {w : World} (h : DBox b k n s v w) (u : Int) : DBox b u n s v (w.setCell ⟨b, 0, none⟩ (.int .i64 u)) :=
  ⟨by rw [cell?_setCell_eq, h.c0]; rfl, (cellSet_ne _ (by decide)).trans h.c1, (cellSet_ne _ (by decide)).trans h.c2, (cellSet_ne _ (by decide)).trans h.c3,
   (frozenSet _).trans h.f0, (frozenSet _).trans h.f1, (frozenSet _).trans h.f2, (frozenSet _).trans h.f3⟩
theorem DBox.set1 {b : Nat} {k n : Int} {s : ByteArray} {v : Value} {w : World} (h : DBox b k n s v w) (u : Int) : DBox b k u s v (w.setCell ⟨b, 1, none⟩ (.int .i64 u)) :=
  ⟨(cellSet_ne _ (by decide)).trans h.c0, by rw [cell?_setCell_eq, h.c1]; rfl, (cellSet_ne _ (by decide)).trans h.c2, (cellSet_ne _ (by decide)).trans h.c3,
   (frozenSet _).trans h.f0, (frozenSet _).trans h.f1, (frozenSet _).trans h.f2, (frozenSet _).trans h.f3⟩
theorem MineL_one {lo : Nat} {w : World} {a : Option Addr} {cap : Nat} {e : TypeId} {ms : List M} (h : (M.sl a cap 4 e ms).Mine w lo) (k n : Int) (s : ByteArray) : M.MineL w lo [.ag [.c (.int .i64 k), .c (.int .i64 n), .c (.string s), .sl a cap 4 e ms]] :=
  ⟨⟨⟨rfl, rfl, rfl, h.own, trivial⟩, trivial⟩, by simpa [M.blocks, M.blocksL] using h.dup⟩
set_option maxHeartbeats 1000000 in
theorem l1Any_calls (pb : Nat) (a : Option Addr) (cap : Nat) (l : List Int) (w : World) (hc : Cur pb a cap l w) :
    Calls Tryd.prog 50 #[.pointer (some ⟨pb, 0, none⟩)] w (DrawnD 400 pb a cap l w) := by
  have hpl := hc.lt
  have HC := Lib.hid hc; clear hc
  go_enter Tryd.func50, Tryd.ntmps50
  go_wp2_with fail
  refine (l1Draw_calls 4 (by decide) pb a cap l _ (HC.out.below (by (repeat (first | with_reducible assumption | with_reducible exact Below.refl _ _ | with_reducible refine Below.drew ?_ | with_reducible refine belowDrewN ?_ _ | ((with_reducible refine Below.setCell ?_ ?_ _); rotate_left; focus (first | omega | (simp; done) | (simp; omega))) | ((with_reducible refine Below.alloc ?_ ?_ _); rotate_left; focus (first | omega | (simp; done) | (simp; omega)))))))).mono ?_
  rintro e w1 ⟨k1, n1, s1, ds1, a1, cap1, ms1, rfl, hi1, hm1, hw1, hct1, hc1, ho1⟩
  have hz1 := ho1.size
  simp only [World.size_alloc] at hz1
  have hzz := (Zero.new w).only ho1 (.inr (by omega))
  have hoo : OnlyIn pb (pb + 1) w w1 := ((OnlyIn.refl _ _ _).new _).trans ho1
  have HC1 := Lib.hid hc1; clear hc1; have HO1 := Lib.hid ho1; clear ho1; have HOO := Lib.hid hoo; clear hoo; have HI1 := Lib.hid hi1; clear hi1; have HM1 := Lib.hid hm1; clear hm1; have HW1 := Lib.hid hw1; clear hw1; have HCT1 := Lib.hid hct1; clear hct1; have HZZ := Lib.hid hzz; clear hzz
  go_wp2_with fail
  refine (l01Below_calls 12 pb a cap l _ (HC1.out.below (by (repeat (first | with_reducible assumption | with_reducible exact Below.refl _ _ | with_reducible refine Below.drew ?_ | with_reducible refine belowDrewN ?_ _ | ((with_reducible refine Below.setCell ?_ ?_ _); rotate_left; focus (first | omega | (simp; done) | (simp; omega))) | ((with_reducible refine Below.alloc ?_ ?_ _); rotate_left; focus (first | omega | (simp; done) | (simp; omega))))))) (by decide) (by decide)).mono ?_
  rintro e w2 ⟨x, rfl, hx0, hx1, hc2, ho2⟩
  have hz2 := ho2.size
  simp only [World.size_alloc] at hz2
  have hbx : DBox w1.heap.size k1 n1 s1 (.slice a1 ms1.length cap1) w2 := (DBox.new _ _ _ _ w1).only ho2 (.inr (by omega))
  have ho12 : OnlyIn pb (pb + 1) w1 w2 := ((OnlyIn.refl _ _ _).new _).trans ho2
  have hz0 : Zero w.heap.size w2 := HZZ.out.only ho12 (.inr (by omega))
  have hm2 : (M.sl a1 cap1 4 40 ms1).Mine w2 (w.heap.size + 1) := (HM1.out.mono (by simp)).keep (fun b h1 h2 => ho12.block b h2 (.inr (by omega)))
  have ho02 := HOO.out.trans ho12
  have hlt := HM1.out.lt_size
  have HC2 := Lib.hid hc2; clear hc2; have HO2 := Lib.hid ho2; clear ho2; have HO12 := Lib.hid ho12; clear ho12; have HM2 := Lib.hid hm2; clear hm2; have HO02 := Lib.hid ho02; clear ho02; have HBX := Lib.hid hbx; clear hbx; have HZ0 := Lib.hid hz0; clear hz0; have HLT := Lib.hid hlt; clear hlt
  have hct : 1 + Dat.countL ds1 ≤ 341 := by have := HCT1.out; simpa [nB] using this
  by_cases h5 : 5 ≤ x
  · have y0 : (x == 0) = false := by simp; omega
    have y1 : (x == 1) = false := by simp; omega
    have y2 : (x == 2) = false := by simp; omega
    have y3 : (x == 3) = false := by simp; omega
    have y4 : (x == 4) = false := by simp; omega
    have HCT := Lib.hid hct; clear hct; have HX0 := Lib.hid hx0; clear hx0; have HX1 := Lib.hid hx1; clear hx1; have H5 := Lib.hid h5; clear h5
    obtain ⟨r0, r1, r2, r3, g0, g1, g2, g3⟩ := HZ0.out
    obtain ⟨q0, q1, q2, q3, f0, f1, f2, f3⟩ := HBX.out
    go_wp2_with fail
    refine bodyPost_ret (v := .agg #[.int .i64 k1, .int .i64 n1, .string s1, .slice a1 ms1.length cap1]) (by simp [results, Tryd.results50, go_sem, r0, r1, r2, r3]) rfl ?_
    refine ⟨k1, n1, s1, ds1, a1, cap1, ms1, rfl, HI1.out, ?_, HW1.out, by have := HCT.out; omega, ?_, ?_⟩
    · (exact M.Mine.mono (M.Mine.keep HM2.out (fun b hb1 hb2 => by (try simp at hb1); simp (disch := (first | omega | (simp; omega))) only [heapSet, heapNew, heapDrew, heapDrewN])) (by first | omega | (simp; done) | (simp; omega)))
    · exact HC2.out.belowB (B := w.heap.size) (by (repeat (first | with_reducible assumption | with_reducible exact Below.refl _ _ | with_reducible refine Below.drew ?_ | with_reducible refine belowDrewN ?_ _ | ((with_reducible refine Below.setCell ?_ ?_ _); rotate_left; focus (first | omega | (simp; done) | (simp; omega))) | ((with_reducible refine Below.alloc ?_ ?_ _); rotate_left; focus (first | omega | (simp; done) | (simp; omega)))))) hpl
    · exact HO02.out.thenBelow (by (repeat (first | with_reducible assumption | with_reducible exact Below.refl _ _ | with_reducible refine Below.drew ?_ | with_reducible refine belowDrewN ?_ _ | ((with_reducible refine Below.setCell ?_ ?_ _); rotate_left; focus (first | omega | (simp; done) | (simp; omega))) | ((with_reducible refine Below.alloc ?_ ?_ _); rotate_left; focus (first | omega | (simp; done) | (simp; omega))))))
  · have hx : x = 0 ∨ x = 1 ∨ x = 2 ∨ x = 3 ∨ x = 4 := by omega
    clear hx0 hx1 h5
    rcases hx with rfl | rfl | rfl | rfl | rfl
    · have HCT := Lib.hid hct; clear hct
      go_wp2_with fail
      refine (l01Int_lit _ _ pb a cap l _ HC2.out ?size (by decide) (by decide) ?nums).mono ?_
      case size => rfl
      case nums => exact Nums.of (by rfl)
      rintro e w3 ⟨y, rfl, hy, hc3, ho3⟩
      have hz3 := ho3.size
      obtain ⟨r0, r1, r2, r3, g0, g1, g2, g3⟩ := HZ0.out.only ho3 (.inr (by omega))
      obtain ⟨q0, q1, q2, q3, f0, f1, f2, f3⟩ := HBX.out.only ho3 (.inr (by omega))
      have hm3 := HM2.out.keep (w' := w3) (fun b h1 h2 => ho3.block b h2 (.inr (by omega)))
      have ho03 := HO02.out.trans ho3
      have hw3 : (Dat.mk k1 y s1 ds1).wf := ⟨HW1.out.1, hy, HW1.out.2.2⟩
      have HY := Lib.hid hy; clear hy
      have HC3 := Lib.hid hc3; clear hc3; have HO3 := Lib.hid ho3; clear ho3; have HM3 := Lib.hid hm3; clear hm3; have HO03 := Lib.hid ho03; clear ho03; have HW3 := Lib.hid hw3; clear hw3
      go_wp2_with fail
      refine bodyPost_ret (v := .agg #[.int .i64 k1, .int .i64 y, .string s1, .slice a1 ms1.length cap1]) (by simp [results, Tryd.results50, go_sem, r0, r1, r2, r3]) rfl ?_
      refine ⟨k1, y, s1, ds1, a1, cap1, ms1, rfl, HI1.out, ?_, HW3.out, by have := HCT.out; omega, ?_, ?_⟩
      · exact M.Mine.mono ⟨M.Own.frame _ HM3.out.own fun b hb => by have h1_ := HLT.out b hb; have h2_ := HM3.out.lt b hb; simp (disch := (first | omega | (simp; omega))) only [heapSet], HM3.out.dup⟩ (by omega)
      · exact HC3.out.belowB (B := w.heap.size) (by (repeat (first | with_reducible assumption | with_reducible exact Below.refl _ _ | with_reducible refine Below.drew ?_ | with_reducible refine belowDrewN ?_ _ | ((with_reducible refine Below.setCell ?_ ?_ _); rotate_left; focus (first | omega | (simp; done) | (simp; omega))) | ((with_reducible refine Below.alloc ?_ ?_ _); rotate_left; focus (first | omega | (simp; done) | (simp; omega)))))) hpl
      · exact HO03.out.thenBelow (by (repeat (first | with_reducible assumption | with_reducible exact Below.refl _ _ | with_reducible refine Below.drew ?_ | with_reducible refine belowDrewN ?_ _ | ((with_reducible refine Below.setCell ?_ ?_ _); rotate_left; focus (first | omega | (simp; done) | (simp; omega))) | ((with_reducible refine Below.alloc ?_ ?_ _); rotate_left; focus (first | omega | (simp; done) | (simp; omega))))))
    · have HCT := Lib.hid hct; clear hct
      go_wp2_with fail
      refine (l01Pick_lit _ _ pb a cap l _ HC2.out ?size (by decide) (by decide) ?texts).mono ?_
      case size => rfl
      case texts => exact Texts.of (by rfl)
      rintro e w3 ⟨y, rfl, hy, hc3, ho3⟩
      have hz3 := ho3.size
      obtain ⟨r0, r1, r2, r3, g0, g1, g2, g3⟩ := HZ0.out.only ho3 (.inr (by omega))
      obtain ⟨q0, q1, q2, q3, f0, f1, f2, f3⟩ := HBX.out.only ho3 (.inr (by omega))
      have hm3 := HM2.out.keep (w' := w3) (fun b h1 h2 => ho3.block b h2 (.inr (by omega)))
      have ho03 := HO02.out.trans ho3
      have hw3 : (Dat.mk k1 n1 y ds1).wf := ⟨HW1.out.1, HW1.out.2.1, by omega, HW1.out.2.2.2⟩
      have HY := Lib.hid hy; clear hy
      have HC3 := Lib.hid hc3; clear hc3; have HO3 := Lib.hid ho3; clear ho3; have HM3 := Lib.hid hm3; clear hm3; have HO03 := Lib.hid ho03; clear ho03; have HW3 := Lib.hid hw3; clear hw3
      go_wp2_with fail
      refine bodyPost_ret (v := .agg #[.int .i64 k1, .int .i64 n1, .string y, .slice a1 ms1.length cap1]) (by simp [results, Tryd.results50, go_sem, r0, r1, r2, r3]) rfl ?_
      refine ⟨k1, n1, y, ds1, a1, cap1, ms1, rfl, HI1.out, ?_, HW3.out, by have := HCT.out; omega, ?_, ?_⟩
      · exact M.Mine.mono ⟨M.Own.frame _ HM3.out.own fun b hb => by have h1_ := HLT.out b hb; have h2_ := HM3.out.lt b hb; simp (disch := (first | omega | (simp; omega))) only [heapSet], HM3.out.dup⟩ (by omega)
      · exact HC3.out.belowB (B := w.heap.size) (by (repeat (first | with_reducible assumption | with_reducible exact Below.refl _ _ | with_reducible refine Below.drew ?_ | with_reducible refine belowDrewN ?_ _ | ((with_reducible refine Below.setCell ?_ ?_ _); rotate_left; focus (first | omega | (simp; done) | (simp; omega))) | ((with_reducible refine Below.alloc ?_ ?_ _); rotate_left; focus (first | omega | (simp; done) | (simp; omega)))))) hpl
      · exact HO03.out.thenBelow (by (repeat (first | with_reducible assumption | with_reducible exact Below.refl _ _ | with_reducible refine Below.drew ?_ | with_reducible refine belowDrewN ?_ _ | ((with_reducible refine Below.setCell ?_ ?_ _); rotate_left; focus (first | omega | (simp; done) | (simp; omega))) | ((with_reducible refine Below.alloc ?_ ?_ _); rotate_left; focus (first | omega | (simp; done) | (simp; omega))))))
    · have HCT := Lib.hid hct; clear hct
      go_wp2_with fail
      refine (l01Below_calls 7 pb a cap l _ HC2.out (by decide) (by decide)).mono ?_
      rintro e w3 ⟨y, rfl, hy0, hy1, hc3, ho3⟩
      have hwr : wrap64 (y - 1) = y - 1 := by unfold wrap64; omega
      have hz3 := ho3.size
      obtain ⟨r0, r1, r2, r3, g0, g1, g2, g3⟩ := HZ0.out.only ho3 (.inr (by omega))
      obtain ⟨q0, q1, q2, q3, f0, f1, f2, f3⟩ := HBX.out.only ho3 (.inr (by omega))
      have hm3 := HM2.out.keep (w' := w3) (fun b h1 h2 => ho3.block b h2 (.inr (by omega)))
      have ho03 := HO02.out.trans ho3
      have hw3 : (Dat.mk (y - 1) n1 s1 ds1).wf := ⟨by unfold I64; omega, HW1.out.2.1, HW1.out.2.2⟩
      have HY0 := Lib.hid hy0; clear hy0; have HY1 := Lib.hid hy1; clear hy1
      have HC3 := Lib.hid hc3; clear hc3; have HO3 := Lib.hid ho3; clear ho3; have HM3 := Lib.hid hm3; clear hm3; have HO03 := Lib.hid ho03; clear ho03; have HW3 := Lib.hid hw3; clear hw3
      go_wp2_with fail
      refine bodyPost_ret (v := .agg #[.int .i64 (y - 1), .int .i64 n1, .string s1, .slice a1 ms1.length cap1]) (by simp [results, Tryd.results50, go_sem, r0, r1, r2, r3]) rfl ?_
      refine ⟨(y - 1), n1, s1, ds1, a1, cap1, ms1, rfl, HI1.out, ?_, HW3.out, by have := HCT.out; omega, ?_, ?_⟩
      · exact M.Mine.mono ⟨M.Own.frame _ HM3.out.own fun b hb => by have h1_ := HLT.out b hb; have h2_ := HM3.out.lt b hb; simp (disch := (first | omega | (simp; omega))) only [heapSet], HM3.out.dup⟩ (by omega)
      · exact HC3.out.belowB (B := w.heap.size) (by (repeat (first | with_reducible assumption | with_reducible exact Below.refl _ _ | with_reducible refine Below.drew ?_ | with_reducible refine belowDrewN ?_ _ | ((with_reducible refine Below.setCell ?_ ?_ _); rotate_left; focus (first | omega | (simp; done) | (simp; omega))) | ((with_reducible refine Below.alloc ?_ ?_ _); rotate_left; focus (first | omega | (simp; done) | (simp; omega)))))) hpl
      · exact HO03.out.thenBelow (by (repeat (first | with_reducible assumption | with_reducible exact Below.refl _ _ | with_reducible refine Below.drew ?_ | with_reducible refine belowDrewN ?_ _ | ((with_reducible refine Below.setCell ?_ ?_ _); rotate_left; focus (first | omega | (simp; done) | (simp; omega))) | ((with_reducible refine Below.alloc ?_ ?_ _); rotate_left; focus (first | omega | (simp; done) | (simp; omega))))))
    · obtain ⟨q0, q1, q2, q3, f0, f1, f2, f3⟩ := HBX.out
      have hlm : ms1.length ≤ 400 := by have h1 := HI1.out.length; have h2 := Dat.length_le ds1; omega
      have hno : w1.heap.size ∉ addrBlocks a1 := fun hx => by have := HLT.out w1.heap.size (by simp only [M.blocks, List.mem_append]; exact .inl hx); omega
      have HCT := Lib.hid hct; clear hct; have HNO := Lib.hid hno; clear hno
      go_wp2_with (at_builtin; refine wpList_push2 (wr := w2) rfl _ _ 32 rfl 40 _ 4 56 Tryd.underlying32 infoDat rfl (by decide) (w.heap.size + 1) a1 cap1 ms1 rfl HM2.out (by omega) (by (repeat (first | with_reducible assumption | with_reducible exact Below.refl _ _ | with_reducible refine Below.drew ?_ | with_reducible refine belowDrewN ?_ _ | ((with_reducible refine Below.setCell ?_ ?_ _); rotate_left; focus (first | omega | (simp; done) | (simp; omega))) | ((with_reducible refine Below.alloc ?_ ?_ _); rotate_left; focus (first | omega | (simp; done) | (simp; omega)))))) _ (M.ag [.c (.int .i64 9), .c (.int .i64 0), .c (.string ⟨#[]⟩), .sl none 0 4 40 []]) rfl rfl w2.heap.size ⟨⟨rfl, rfl, rfl, (M.Mine.nil w2 _ 4 40 (by decide)).own, trivial⟩, by simp [M.blocks, M.blocksL, addrBlocks]⟩ (Nat.le_refl _) (by simp [go_sem]) (by unfold maxLen; omega) (by omega) ?_)
      intro a3 cap3 w3 hm3 hb3 hz3 hk3 hl3
      have hp3 : w1.heap.size < w3.heap.size := by omega
      obtain ⟨s0, s1', s2, s3, m0, m1, m2, m3⟩ : DBox w1.heap.size k1 n1 s1 (.slice a1 ms1.length cap1) w3 := HBX.out.of (hk3 _ (by omega) HNO.out)
      obtain ⟨r0, r1, r2, r3, g0, g1, g2, g3⟩ : Zero w.heap.size w3 := HZ0.out.of (hb3.block _ (by omega))
      have hlt3 : ∀ b ∈ (M.sl a3 cap3 4 40 (ms1 ++ [(M.ag [.c (.int .i64 9), .c (.int .i64 0), .c (.string ⟨#[]⟩), .sl none 0 4 40 []])])).blocks, b ≠ w1.heap.size := by
        intro b hb
        simp only [M.blocks, List.mem_append] at hb
        rcases hb with hb | hb
        · rcases hl3 b hb with h | h
          · intro he; subst he; exact HNO.out h
          · omega
        · rw [M.blocksL_append, List.mem_append] at hb
          rcases hb with hb | hb
          · have := HLT.out b (by simp only [M.blocks, List.mem_append]; exact .inr hb); omega
          · simp [M.blocksL, M.blocks, addrBlocks] at hb
      have hi3 : Dat.IsL 40 (ds1 ++ [.mk 9 0 ⟨#[]⟩ []]) (ms1 ++ [(M.ag [.c (.int .i64 9), .c (.int .i64 0), .c (.string ⟨#[]⟩), .sl none 0 4 40 []])]) := HI1.out.snoc ⟨none, 0, [], rfl, rfl⟩
      have hw3 : (Dat.mk k1 n1 s1 (ds1 ++ [.mk 9 0 ⟨#[]⟩ []])).wf := ⟨HW1.out.1, HW1.out.2.1, HW1.out.2.2.1, wfL_snoc HW1.out.2.2.2 ⟨by unfold I64; omega, by unfold I64; omega, by show (0 : Nat) ≤ _; omega, trivial⟩⟩
      have hct3 : 1 + Dat.countL (ds1 ++ [.mk 9 0 ⟨#[]⟩ []]) ≤ 400 := by have := HCT.out; rw [countL_snocD]; simp [Dat.count, Dat.countL]; omega
      have hml3 : (ms1 ++ [(M.ag [.c (.int .i64 9), .c (.int .i64 0), .c (.string ⟨#[]⟩), .sl none 0 4 40 []])]).length = ms1.length + 1 := by simp
      have hb23 : Below w.heap.size w2 w3 := hb3.mono (by omega)
      clear q0 q1 q2 q3 f0 f1 f2 f3 hk3 hl3
      have HM3 := Lib.hid hm3; clear hm3; have HLT3 := Lib.hid hlt3; clear hlt3; have HI3 := Lib.hid hi3; clear hi3; have HW3 := Lib.hid hw3; clear hw3; have HCT3 := Lib.hid hct3; clear hct3; have HML3 := Lib.hid hml3; clear hml3
      go_wp2_with fail
      refine bodyPost_ret (v := .agg #[.int .i64 k1, .int .i64 n1, .string s1, .slice a3 (ms1.length + 1) cap3]) (by simp [results, Tryd.results50, go_sem, r0, r1, r2, r3]) rfl ?_
      refine ⟨k1, n1, s1, _, a3, cap3, _, by rw [HML3.out], HI3.out, ?_, HW3.out, HCT3.out, ?_, ?_⟩
      · exact M.Mine.mono ⟨M.Own.frame _ HM3.out.own fun b hb => by have h1_ := HLT3.out b hb; have h2_ := HM3.out.lt b hb; simp (disch := (first | omega | (simp; omega))) only [heapSet], HM3.out.dup⟩ (by omega)
      · exact HC2.out.belowB (B := w.heap.size) (by (repeat (first | with_reducible assumption | with_reducible exact Below.refl _ _ | with_reducible refine Below.drew ?_ | with_reducible refine belowDrewN ?_ _ | ((with_reducible refine Below.setCell ?_ ?_ _); rotate_left; focus (first | omega | (simp; done) | (simp; omega))) | ((with_reducible refine Below.alloc ?_ ?_ _); rotate_left; focus (first | omega | (simp; done) | (simp; omega))) | ((with_reducible refine Below.trans ?_ (Below.mono hb23 ?_)); rotate_left; focus (first | omega | (simp; done) | (simp; omega)))))) hpl
      · exact HO02.out.thenBelow (by (repeat (first | with_reducible assumption | with_reducible exact Below.refl _ _ | with_reducible refine Below.drew ?_ | with_reducible refine belowDrewN ?_ _ | ((with_reducible refine Below.setCell ?_ ?_ _); rotate_left; focus (first | omega | (simp; done) | (simp; omega))) | ((with_reducible refine Below.alloc ?_ ?_ _); rotate_left; focus (first | omega | (simp; done) | (simp; omega))) | ((with_reducible refine Below.trans ?_ (Below.mono hb23 ?_)); rotate_left; focus (first | omega | (simp; done) | (simp; omega))))))
    · have HCT := Lib.hid hct; clear hct
      go_wp2_with fail
      go_loopw [4] (fun i wr => ∃ (j : Nat) (k n : Int) (s : ByteArray) (ds : List Dat) (a' : Option Addr) (cap' : Nat) (ms' : List M), j ≤ 21 ∧ i = .int .i64 j ∧ DBox w1.heap.size k n s (.slice a' ms'.length cap') wr ∧ Zero w.heap.size wr ∧ Dat.IsL 40 ds ms' ∧ (M.sl a' cap' 4 40 ms').Mine wr (w.heap.size + 1) ∧ (∀ b ∈ (M.sl a' cap' 4 40 ms').blocks, b ≠ w1.heap.size) ∧ (Dat.mk k n s ds).wf ∧ 1 + Dat.countL ds ≤ 341 + j ∧ Below w.heap.size w2 wr) (fun i _ => 21 - (intOf i).toNat)
      case atStart => exact ⟨0, k1, n1, s1, ds1, a1, cap1, ms1, by omega, rfl, HBX.out, HZ0.out, HI1.out, HM2.out, fun b hb => by have := HLT.out b hb; omega, HW1.out, by have := HCT.out; omega, Below.refl _ _⟩
      case round =>
        obtain ⟨j, k, n, s, ds, a', cap', ms', hj, rfl, hbx, hz, hi, hm, hnb, hwf, hct', hb⟩ := hrel
        have hzr := hb.size
        have p3 := hbx.lt
        have hbx0 := hbx
        have hz0 := hz
        have hcapm := hm.in_.len
        obtain ⟨q0, q1, q2, q3, f0, f1, f2, f3⟩ := hbx
        obtain ⟨r0, r1, r2, r3, g0, g1, g2, g3⟩ := hz
        by_cases hlt21 : j < 21
        · have HI := Lib.hid hi; clear hi; have HM := Lib.hid hm; clear hm; have HNB := Lib.hid hnb; clear hnb; have HWF := Lib.hid hwf; clear hwf; have HCT' := Lib.hid hct'; clear hct'; have HBX0 := Lib.hid hbx0; clear hbx0; have HZ0 := Lib.hid hz0; clear hz0
          go_wp2_with fail
          go_roundw
          case rel =>
            refine ⟨j + 1, 0, 0, ⟨#[]⟩, [.mk k n s ds], some ⟨wr.heap.size, 0, none⟩, 1, [.ag [.c (.int .i64 k), .c (.int .i64 n), .c (.string s), .sl a' cap' 4 40 ms']], by omega, by go_num, ?_, ?_, ⟨_, [], rfl, ⟨a', cap', ms', rfl, HI.out⟩, rfl⟩, ?_, ?_, ?_, ?_, ?_⟩
            · refine DBox.of (w := (((wr.setCell ⟨w1.heap.size, 0, none⟩ (.int .i64 0)).setCell ⟨w1.heap.size, 1, none⟩ (.int .i64 0)).setCell ⟨w1.heap.size, 2, none⟩ (.string ⟨#[]⟩)).setCell ⟨w1.heap.size, 3, none⟩ (.slice (some ⟨wr.heap.size, 0, none⟩) 1 1)) ((((HBX0.out.set0 0).set1 0).set2 ⟨#[]⟩).set3 _) ?_
              simp (disch := (first | omega | (simp; done) | (simp; omega))) only [heapNew]
            · refine HZ0.out.of ?_
              have := HZ0.out.lt
              simp (disch := (first | omega | (simp; done) | (simp; omega))) only [heapSet, heapNew]
            · have hmw : (M.sl a' cap' 4 40 ms').Mine ((((wr.setCell ⟨w1.heap.size, 0, none⟩ (.int .i64 0)).setCell ⟨w1.heap.size, 1, none⟩ (.int .i64 0)).setCell ⟨w1.heap.size, 2, none⟩ (.string ⟨#[]⟩)).setCell ⟨w1.heap.size, 3, none⟩ (.slice (some ⟨wr.heap.size, 0, none⟩) 1 1)) (w.heap.size + 1) :=
                ⟨M.Own.frame _ HM.out.own fun b hb' => by have h1_ := HNB.out b hb'; simp (disch := (first | omega | (simp; omega))) only [heapSet], HM.out.dup⟩
              have hN := M.Mine.new (w := ((((wr.setCell ⟨w1.heap.size, 0, none⟩ (.int .i64 0)).setCell ⟨w1.heap.size, 1, none⟩ (.int .i64 0)).setCell ⟨w1.heap.size, 2, none⟩ (.string ⟨#[]⟩)).setCell ⟨w1.heap.size, 3, none⟩ (.slice (some ⟨wr.heap.size, 0, none⟩) 1 1))) (lo := w.heap.size + 1) (sz := 4) (n := 1) (e := 40) (cs := #[.int .i64 k, .int .i64 n, .string s, .slice a' ms'.length cap']) (xs := [.ag [.c (.int .i64 k), .c (.int .i64 n), .c (.string s), .sl a' cap' 4 40 ms']]) rfl (by simp; omega) rfl (by decide) (by intro x hx; simp at hx; subst hx; rfl) (by decide) (MineL_one hmw k n s)
              simpa using hN
            · intro b hb'
              simp only [M.blocks, M.blocksL, List.mem_append, List.append_nil, List.nil_append] at hb'
              rcases hb' with hb' | hb'
              · simp [addrBlocks] at hb'; omega
              · exact HNB.out b (by simp only [M.blocks, List.mem_append]; exact hb')
            · exact ⟨by unfold I64; omega, by unfold I64; omega, by show (0 : Nat) ≤ _; omega, HWF.out, trivial⟩
            · have := HCT'.out; simp only [Dat.countL, Dat.count]; omega
            · (repeat (first | with_reducible assumption | with_reducible exact Below.refl _ _ | with_reducible refine Below.drew ?_ | with_reducible refine belowDrewN ?_ _ | ((with_reducible refine Below.setCell ?_ ?_ _); rotate_left; focus (first | omega | (simp; done) | (simp; omega))) | ((with_reducible refine Below.alloc ?_ ?_ _); rotate_left; focus (first | omega | (simp; done) | (simp; omega))) | ((with_reducible refine Below.trans ?_ (Below.mono hb ?_)); rotate_left; focus (first | omega | (simp; done) | (simp; omega)))))
          case measure => simp [intOf]; omega
        · have hj21 : j = 21 := by omega
          subst hj21
          have HI := Lib.hid hi; clear hi; have HM := Lib.hid hm; clear hm; have HNB := Lib.hid hnb; clear hnb; have HWF := Lib.hid hwf; clear hwf; have HCT' := Lib.hid hct'; clear hct'; have HBX0 := Lib.hid hbx0; clear hbx0; have HZ0 := Lib.hid hz0; clear hz0
          go_wp2_with fail
          refine bodyPost_ret (v := .agg #[.int .i64 k, .int .i64 n, .string s, .slice a' ms'.length cap']) (by simp [results, Tryd.results50, go_sem, r0, r1, r2, r3]) rfl ?_
          refine ⟨k, n, s, ds, a', cap', ms', rfl, HI.out, ?_, HWF.out, by have := HCT'.out; omega, ?_, ?_⟩
          · exact M.Mine.mono ⟨M.Own.frame _ HM.out.own fun b hb' => by have h1_ := HNB.out b hb'; have h2_ := HM.out.lt b hb'; simp (disch := (first | omega | (simp; omega))) only [heapSet], HM.out.dup⟩ (by omega)
          · exact HC2.out.belowB (B := w.heap.size) (by (repeat (first | with_reducible assumption | with_reducible exact Below.refl _ _ | with_reducible refine Below.drew ?_ | with_reducible refine belowDrewN ?_ _ | ((with_reducible refine Below.setCell ?_ ?_ _); rotate_left; focus (first | omega | (simp; done) | (simp; omega))) | ((with_reducible refine Below.alloc ?_ ?_ _); rotate_left; focus (first | omega | (simp; done) | (simp; omega))) | ((with_reducible refine Below.trans ?_ (Below.mono hb ?_)); rotate_left; focus (first | omega | (simp; done) | (simp; omega)))))) hpl
          · exact HO02.out.thenBelow (by (repeat (first | with_reducible assumption | with_reducible exact Below.refl _ _ | with_reducible refine Below.drew ?_ | with_reducible refine belowDrewN ?_ _ | ((with_reducible refine Below.setCell ?_ ?_ _); rotate_left; focus (first | omega | (simp; done) | (simp; omega))) | ((with_reducible refine Below.alloc ?_ ?_ _); rotate_left; focus (first | omega | (simp; done) | (simp; omega))) | ((with_reducible refine Below.trans ?_ (Below.mono hb ?_)); rotate_left; focus (first | omega | (simp; done) | (simp; omega))))))
end Go.Proofs.YtghbnehocggnnaaDoor

/-
  Walks: the text of data of any weight; data and texts drawn. Condition: the library's table of powers of ten reads as laid (the program's FormatData).
-/
set_option linter.unusedVariables false
set_option linter.unusedSimpArgs false
set_option maxRecDepth 100000
namespace Go.Proofs.YtghbnehocggnnaaDoor
open Go.RowKit

theorem ok_size {k n : Int} {s : ByteArray} {ds : List Dat} (h : (Dat.mk k n s ds).ok) : s.size ≤ 20 := by
  rcases ok_cases h with ⟨rfl, rfl, rfl⟩ | ⟨rfl, rfl, hs, rfl⟩ | ⟨rfl, h1, h2, rfl, rfl⟩ | ⟨rfl, hn, rfl, rfl⟩ | ⟨rfl, rfl, hs, rfl⟩
  · exact Nat.zero_le _
  · have := isSym_parts hs; omega
  · exact Nat.zero_le _
  · exact Nat.zero_le _
  · exact (strB_parts hs).1
theorem ok_wt : ∀ ds : List Dat, (∀ d ∈ ds, d.ok) → ds.length + Dat.wtX ds ≤ 21 * Dat.countL ds := by
  refine Dat.inductL fun ds ih hok => ?_
  induction ds with
  | nil => simp [Dat.wtX]
  | cons d r ihr =>
    obtain ⟨k, n, s, es⟩ := d
    have hd := hok _ (List.mem_cons_self ..)
    have h1 := ih k n s es (List.mem_cons_self ..) (fun e he => (Dat.ok_mk.1 hd).2 e he)
    have h2 := ihr (fun k n s es hm => ih k n s es (List.mem_cons_of_mem _ hm)) (fun e he => hok e (List.mem_cons_of_mem _ he))
    have h3 := ok_size hd
    simp only [List.length_cons, Dat.wtX, Dat.wt, Dat.countL, Dat.count]
    omega
theorem are_wt {ds : List Dat} (h : areB ds = true) : ds.length + Dat.wtX ds ≤ 2000000 := by
  have h2 : AreP ds := by simpa [areB] using h
  have := ok_wt ds h2.2.2
  have := h2.1
  omega
theorem iFormatData2_calls (ds : List Dat) (a : Option Addr) (cap : Nat) (ms : List M) (w : World) (hwl : Dat.wfL ds) (hB : Dat.countL ds ≤ 1000000000) (hi : Dat.IsL 40 ds ms) (hin : (M.sl a cap 4 40 ms).In w) (hT : Tab w.heap.size w) :
    Calls Tryd.prog 11 #[.slice a ms.length cap] w (Ret (.string ⟨(fmtsOf ds).toArray⟩) w) := by
  cases hv : areB ds with
  | true => exact iFormatData_calls ds a cap ms w hwl hB (are_wt hv) hi hin w.heap.size hT (Nat.le_refl _)
  | false =>
    have hs : fmtsOf ds = [] := by unfold fmtsOf; rw [if_neg (by rw [hv]; decide)]
    rw [hs]
    have HS := Lib.hid hs; clear hs; have HI := Lib.hid hi; clear hi; have HIN := Lib.hid hin; clear hin; have HWL := Lib.hid hwl; clear hwl; have HT := Lib.hid hT; clear hT
    go_enter Tryd.func11, Tryd.ntmps11
    go_wp2_with fail
    refine (iAreData_calls ds a cap ms _ HWL.out hB HI.out HIN.out).mono ?_
    rintro e w1 ⟨rfl, hb1⟩
    rw [hv]
    go_wp2_with fail
    go_ret
    exact ⟨rfl, by (repeat (first | with_reducible assumption | with_reducible exact Below.refl _ _ | with_reducible refine Below.drew ?_ | with_reducible refine belowDrewN ?_ _ | ((with_reducible refine Below.setCell ?_ ?_ _); rotate_left; focus (first | omega | (simp; done) | (simp; omega))) | ((with_reducible refine Below.alloc ?_ ?_ _); rotate_left; focus (first | omega | (simp; done) | (simp; omega))) | ((with_reducible refine Below.trans ?_ (Below.mono hb1 ?_)); rotate_left; focus (first | omega | (simp; done) | (simp; omega)))))⟩
theorem sFormatData2_calls (ds : List Dat) (a : Option Addr) (cap : Nat) (ms : List M) (w : World) (hwl : Dat.wfL ds) (hB : Dat.countL ds ≤ 1000000000) (hi : Dat.IsL 40 ds ms) (hin : (M.sl a cap 4 40 ms).In w) :
    Calls Tryd.prog 35 #[.slice a ms.length cap] w (Ret (.string ⟨(fmtsOf ds).toArray⟩) w) := by
  cases hv : areB ds with
  | true => exact sFormatData_calls ds a cap ms w hwl hB (are_wt hv) hi hin
  | false =>
    have hs : fmtsOf ds = [] := by unfold fmtsOf; rw [if_neg (by rw [hv]; decide)]
    rw [hs]
    have HS := Lib.hid hs; clear hs; have HI := Lib.hid hi; clear hi; have HIN := Lib.hid hin; clear hin; have HWL := Lib.hid hwl; clear hwl
    go_enter Tryd.func35, Tryd.ntmps35
    go_wp2_with fail
    refine (sAreData_calls ds a cap ms _ HWL.out hB HI.out HIN.out).mono ?_
    rintro e w1 ⟨rfl, hb1⟩
    rw [hv]
    go_wp2_with fail
    go_ret
    exact ⟨rfl, by (repeat (first | with_reducible assumption | with_reducible exact Below.refl _ _ | with_reducible refine Below.drew ?_ | with_reducible refine belowDrewN ?_ _ | ((with_reducible refine Below.setCell ?_ ?_ _); rotate_left; focus (first | omega | (simp; done) | (simp; omega))) | ((with_reducible refine Below.alloc ?_ ?_ _); rotate_left; focus (first | omega | (simp; done) | (simp; omega))) | ((with_reducible refine Below.trans ?_ (Below.mono hb1 ?_)); rotate_left; focus (first | omega | (simp; done) | (simp; omega)))))⟩
theorem fmtsOf_length (ds : List Dat) : (fmtsOf ds).length ≤ 13800 := by
  unfold fmtsOf
  split
  · rename_i h
    have h2 : AreP ds := by simpa [areB] using h
    have hs := fmt_small ds h2.2.2
    have hl := fmtLn_length ds
    have := h2.1
    omega
  · simp
/-- data drawn -/
def RetDrawnL (w : World) (e : Ending) (w' : World) : Prop :=
  ∃ (ds : List Dat) (a' : Option Addr) (cap' : Nat) (ms : List M), e = .returned (.slice a' ms.length cap') ∧ Dat.IsL 40 ds ms ∧ (M.sl a' cap' 4 40 ms).Mine w' w.heap.size ∧ Dat.wfL ds ∧ Dat.countL ds ≤ 2000 ∧ Below w.heap.size w w'
set_option maxHeartbeats 2000000 in
theorem drawListDatum_calls (a : Option Addr) (cap : Nat) (l : List Int) (w : World) (hin : (M.sl a cap 1 5 (u8M l)).In w) (hu : ∀ z ∈ l, 0 ≤ z ∧ z ≤ 255) (hlen : l.length ≤ 1048576) :
    Calls Tryd.prog 25 #[.slice a l.length cap] w (RetDrawnL w) := by
  have HIN := Lib.hid hin; clear hin; have HU := Lib.hid hu; clear hu
  go_enter Tryd.func25, Tryd.ntmps25
  go_wp2_with fail
  refine (l01New_calls a cap l _ HIN.out HU.out hlen).mono ?_
  rintro e w1 ⟨pb, rfl, hpb, hc1, hb1⟩
  have hz1 := hb1.size
  have hp1 := hc1.lt
  have hm1 := M.Mine.new (w := w1) (lo := w1.heap.size) (n := 0) (sz := 4) (e := 40) (cs := #[]) (xs := []) rfl (Nat.le_refl _) rfl (by decide) (fun x hx => by cases hx) (by decide) ⟨trivial, by simp [M.blocksL]⟩
  have HC1 := Lib.hid hc1; clear hc1; have HB1 := Lib.hid hb1; clear hb1; have HM1 := Lib.hid hm1; clear hm1
  go_wp2_with fail
  refine (l01Below_calls 4 pb a cap l _ (HC1.out.below (by (repeat (first | with_reducible assumption | with_reducible exact Below.refl _ _ | with_reducible refine Below.drew ?_ | with_reducible refine belowDrewN ?_ _ | ((with_reducible refine Below.setCell ?_ ?_ _); rotate_left; focus (first | omega | (simp; done) | (simp; omega))) | ((with_reducible refine Below.alloc ?_ ?_ _); rotate_left; focus (first | omega | (simp; done) | (simp; omega))))))) (by decide) (by decide)).mono ?_
  rintro e w2 ⟨x, rfl, hx0, hx1, hc2, ho2⟩
  obtain ⟨n0, rfl⟩ := Int.eq_ofNat_of_zero_le hx0
  have hn3 : n0 ≤ 3 := by omega
  have hz2 := ho2.size
  simp only [World.size_alloc] at hz2
  have hm2 := HM1.out.keep (w' := w2) (fun b h1 h2 => ho2.block b h2 (.inr (by omega)))
  have hbw2 : Below w.heap.size w w2 := (show Below w.heap.size w (w1.alloc (.cells #[] 40)) by (repeat (first | with_reducible assumption | with_reducible exact Below.refl _ _ | with_reducible refine Below.drew ?_ | with_reducible refine belowDrewN ?_ _ | ((with_reducible refine Below.setCell ?_ ?_ _); rotate_left; focus (first | omega | (simp; done) | (simp; omega))) | ((with_reducible refine Below.alloc ?_ ?_ _); rotate_left; focus (first | omega | (simp; done) | (simp; omega))) | ((with_reducible refine Below.trans ?_ (Below.mono HB1.out ?_)); rotate_left; focus (first | omega | (simp; done) | (simp; omega)))))).trans (ho2.below (by omega) (by simp; omega))
  clear hx0 hx1
  have HC2 := Lib.hid hc2; clear hc2; have HO2 := Lib.hid ho2; clear ho2; have HM2 := Lib.hid hm2; clear hm2
  go_wp2_with fail
  go_loopw [4, 5] (fun t i wr => ∃ (n : Nat) (a' : Option Addr) (cap' : Nat) (ms : List M) (ds : List Dat), i = .int .i64 n ∧ t = .slice a' ms.length cap' ∧ ms.length + n ≤ 3 ∧ Dat.IsL 40 ds ms ∧ (M.sl a' cap' 4 40 ms).Mine wr w1.heap.size ∧ Dat.wfL ds ∧ Dat.countL ds ≤ ms.length * 400 ∧ Cur pb a cap l wr ∧ Below w.heap.size w wr ∧ w1.heap.size ≤ wr.heap.size) (fun _ i _ => (intOf i).toNat)
  case atStart => exact ⟨n0, _, _, [], [], rfl, rfl, by simpa using hn3, rfl, HM2.out, trivial, by simp [Dat.countL], HC2.out, hbw2, by omega⟩
  case round =>
    obtain ⟨n, a', cap', ms, ds, rfl, rfl, hnm, hi, hm, hwl, hct, hcr, hbw, hsz⟩ := hrel
    cases n with
    | zero =>
      have hct2 : Dat.countL ds ≤ 2000 := by omega
      have HI := Lib.hid hi; clear hi; have HM := Lib.hid hm; clear hm; have HWL := Lib.hid hwl; clear hwl; have HCT := Lib.hid hct; clear hct; have HCR := Lib.hid hcr; clear hcr; have HCT2 := Lib.hid hct2; clear hct2; have HNM := Lib.hid hnm; clear hnm
      go_wp2_with fail
      go_ret
      exact ⟨ds, a', cap', ms, rfl, HI.out, HM.out.mono (by omega), HWL.out, HCT2.out, hbw⟩
    | succ n =>
      have hpos : 0 < ((n + 1 : Nat) : Int) := by omega
      have HI := Lib.hid hi; clear hi; have HM := Lib.hid hm; clear hm; have HWL := Lib.hid hwl; clear hwl; have HCT := Lib.hid hct; clear hct; have HCR := Lib.hid hcr; clear hcr; have HNM := Lib.hid hnm; clear hnm
      go_wp2_with fail
      refine (l1Any_calls pb a cap l _ HCR.out).mono ?_
      rintro e w4 ⟨k4, n4, s4, ds4, a4, cap4, ms4, rfl, hi4, hm4, hw4, hct4, hc4, ho4⟩
      have hz4 := ho4.size
      have hbw4 : Below w.heap.size w w4 := hbw.trans (ho4.below (by omega) (by omega))
      have hkk : ∀ b, w1.heap.size ≤ b → b < wr.heap.size → w4.heap[b]? = wr.heap[b]? := fun b h1 h2 => ho4.block b h2 (.inr (by omega))
      have HI4 := Lib.hid hi4; clear hi4; have HM4 := Lib.hid hm4; clear hm4; have HW4 := Lib.hid hw4; clear hw4; have HCT4 := Lib.hid hct4; clear hct4; have HC4 := Lib.hid hc4; clear hc4; have HO4 := Lib.hid ho4; clear ho4; have HKK := Lib.hid hkk; clear hkk
      go_wp2_with (at_builtin; refine wpList_push3 (wr := wr) (w1 := w4) rfl _ _ 32 rfl 40 _ 4 56 Tryd.underlying32 infoDat rfl (by decide) w1.heap.size a' cap' ms rfl HM.out (by omega) (by omega) HKK.out _ (M.ag [.c (.int .i64 k4), .c (.int .i64 n4), .c (.string s4), .sl a4 cap4 4 40 ms4]) rfl rfl wr.heap.size (Dat.mine HM4.out) (Nat.le_refl _) (by simp [go_sem]) (by have := HNM.out; unfold maxLen; omega) (by have := HNM.out; omega) ?_)
      intro a5 cap5 w5 hm5 hb5 hz5 hk5
      have hc5 := HC4.out.belowB hb5 (by omega)
      have hbw5 : Below w.heap.size w w5 := hbw4.trans (hb5.mono (by omega))
      have hi5 : Dat.IsL 40 (ds ++ [.mk k4 n4 s4 ds4]) (ms ++ [(M.ag [.c (.int .i64 k4), .c (.int .i64 n4), .c (.string s4), .sl a4 cap4 4 40 ms4])]) := HI.out.snoc ⟨_, _, _, rfl, HI4.out⟩
      have hnl : (ms ++ [(M.ag [.c (.int .i64 k4), .c (.int .i64 n4), .c (.string s4), .sl a4 cap4 4 40 ms4])]).length = ms.length + 1 := by simp
      have hct5 : Dat.countL (ds ++ [.mk k4 n4 s4 ds4]) ≤ (ms.length + 1) * 400 := by
        have h1 := HCT.out
        have h2 := HCT4.out
        rw [Dat.countL_append]; simp only [Dat.countL, Dat.count]; omega
      have hwl5 : Dat.wfL (ds ++ [.mk k4 n4 s4 ds4]) := wfL_snoc HWL.out HW4.out
      have hn4 : n ≤ 3 := by have := HNM.out; omega
      have HM5 := Lib.hid hm5; clear hm5; have HB5 := Lib.hid hb5; clear hb5; have HK5 := Lib.hid hk5; clear hk5; have HC5 := Lib.hid hc5; clear hc5; have HI5 := Lib.hid hi5; clear hi5; have HNL := Lib.hid hnl; clear hnl; have HCT5 := Lib.hid hct5; clear hct5; have HWL5 := Lib.hid hwl5; clear hwl5
      go_wp2_with fail
      go_roundw
      case rel => exact ⟨n, a5, cap5, _, _, by go_num, by rw [HNL.out], by rw [HNL.out]; have := HNM.out; omega, HI5.out, HM5.out, HWL5.out, by rw [HNL.out]; exact HCT5.out, HC5.out, hbw5, by omega⟩
      case measure => first | (simp [intOf]; done) | (simp [intOf]; omega)
theorem drawFormatData_calls (a : Option Addr) (cap : Nat) (l : List Int) (w : World) (hin : (M.sl a cap 1 5 (u8M l)).In w) (hu : ∀ z ∈ l, 0 ≤ z ∧ z ≤ 255) (hlen : l.length ≤ 1048576) :
    Calls Tryd.prog 10 #[.slice a l.length cap] w (RetDrawnL w) := by
  have HIN := Lib.hid hin; clear hin; have HU := Lib.hid hu; clear hu
  go_enter Tryd.func10, Tryd.ntmps10
  go_wp2_with fail
  refine (drawListDatum_calls a cap l _ HIN.out HU.out hlen).mono ?_
  rintro e w1 ⟨ds, a', cap', ms, rfl, hi, hm, hwl, hct, hb⟩
  have HI := Lib.hid hi; clear hi; have HM := Lib.hid hm; clear hm; have HWL := Lib.hid hwl; clear hwl; have HB := Lib.hid hb; clear hb
  go_wp2_with fail
  go_ret
  exact ⟨ds, a', cap', ms, rfl, HI.out, HM.out, HWL.out, hct, HB.out⟩
/-- a text drawn -/
def RetText (w : World) (e : Ending) (w' : World) : Prop := ∃ t : ByteArray, e = .returned (.string t) ∧ t.size ≤ 100000 ∧ Below w.heap.size w w'
end Go.Proofs.YtghbnehocggnnaaDoor

/-
  Walks: a text drawn for the reader. No condition.
-/
set_option linter.unusedVariables false
set_option linter.unusedSimpArgs false
set_option maxRecDepth 100000
namespace Go.Proofs.YtghbnehocggnnaaDoor
open Go.RowKit

/-- two data in one new row -/
theorem twoData {w3 w4 : World} {lo pb : Nat} {k3 n3 k4 n4 : Int} {s3 s4 : ByteArray} {a3 a4 : Option Addr} {cap3 cap4 : Nat} {ms3 ms4 : List M} (h3 : (M.sl a3 cap3 4 40 ms3).Mine w3 lo) (h4 : (M.sl a4 cap4 4 40 ms4).Mine w4 w3.heap.size)
    (ho : OnlyIn pb (pb + 1) w3 w4) (hp : pb < lo) (hl : lo ≤ w3.heap.size) :
    (M.sl (some ⟨w4.heap.size, 0, none⟩) 2 4 40 [.ag [.c (.int .i64 k3), .c (.int .i64 n3), .c (.string s3), .sl a3 cap3 4 40 ms3], .ag [.c (.int .i64 k4), .c (.int .i64 n4), .c (.string s4), .sl a4 cap4 4 40 ms4]]).Mine
      (w4.alloc (.cells #[.int .i64 k3, .int .i64 n3, .string s3, .slice a3 ms3.length cap3, .int .i64 k4, .int .i64 n4, .string s4, .slice a4 ms4.length cap4] 40)) lo := by
  have hz := ho.size
  have h3' : (M.sl a3 cap3 4 40 ms3).Mine w4 lo := h3.keep (fun b h1 h2 => ho.block b h2 (.inr (by omega)))
  refine M.Mine.new (w := w4) (lo := lo) (sz := 4) (n := 2) (e := 40) (cs := #[.int .i64 k3, .int .i64 n3, .string s3, .slice a3 ms3.length cap3, .int .i64 k4, .int .i64 n4, .string s4, .slice a4 ms4.length cap4]) (xs := [.ag [.c (.int .i64 k3), .c (.int .i64 n3), .c (.string s3), .sl a3 cap3 4 40 ms3], .ag [.c (.int .i64 k4), .c (.int .i64 n4), .c (.string s4), .sl a4 cap4 4 40 ms4]]) rfl (by omega) rfl (by decide) (fun x hx => by simp at hx; rcases hx with rfl | rfl <;> rfl) (by decide)
    ⟨⟨⟨rfl, rfl, rfl, h3'.own, trivial⟩, ⟨rfl, rfl, rfl, (h4.mono hl).own, trivial⟩, trivial⟩, ?_⟩
  have e : M.blocksL [M.ag [.c (.int .i64 k3), .c (.int .i64 n3), .c (.string s3), .sl a3 cap3 4 40 ms3], M.ag [.c (.int .i64 k4), .c (.int .i64 n4), .c (.string s4), .sl a4 cap4 4 40 ms4]] = (M.sl a3 cap3 4 40 ms3).blocks ++ (M.sl a4 cap4 4 40 ms4).blocks := by
    simp [M.blocks, M.blocksL]
  rw [e]
  refine List.nodup_append.2 ⟨h3.dup, h4.dup, fun b hb b' hb' he => ?_⟩
  subst he
  have := (h3.lt b hb).2
  have := (h4.lt b hb').1
  omega
set_option maxHeartbeats 4000000 in
theorem drawParseData_calls (a : Option Addr) (cap : Nat) (l : List Int) (w : World) (hin : (M.sl a cap 1 5 (u8M l)).In w) (hu : ∀ z ∈ l, 0 ≤ z ∧ z ≤ 255) (hlen : l.length ≤ 1048576) :
    Calls Tryd.prog 15 #[.slice a l.length cap] w (RetText w) := by
  have HIN := Lib.hid hin; clear hin; have HU := Lib.hid hu; clear hu
  go_enter Tryd.func15, Tryd.ntmps15
  go_wp2_with fail
  refine (l01New_calls a cap l _ HIN.out HU.out hlen).mono ?_
  rintro e w1 ⟨pb, rfl, hpb, hc1, hb1⟩
  have hz1 := hb1.size
  have hp1 := hc1.lt
  have HC1 := Lib.hid hc1; clear hc1; have HB1 := Lib.hid hb1; clear hb1
  go_wp2_with fail
  refine (l01Once_calls 4 pb a cap l _ HC1.out (by decide) (by decide)).mono ?_
  rintro e w2 ⟨bb, rfl, hc2, ho2⟩
  have hz2 := ho2.size
  have hbw2 : Below w.heap.size w w2 := HB1.out.trans (ho2.below (by omega) (by omega))
  clear ho2
  cases bb with
  | true =>
    have HC2 := Lib.hid hc2; clear hc2; have HBW2 := Lib.hid hbw2; clear hbw2
    go_wp2_with fail
    refine (l01Pick_lit _ _ pb a cap l _ HC2.out ?size (by decide) (by decide) ?texts).mono ?_
    case size => rfl
    case texts => exact Texts.of (by rfl)
    rintro e w3 ⟨x, rfl, hx, hc3, ho3⟩
    have hbw3 : Below w.heap.size w w3 := HBW2.out.trans (ho3.below (by omega) (by omega))
    have hx2 : x.size ≤ 100000 := by omega
    have HBW3 := Lib.hid hbw3; clear hbw3; have HX2 := Lib.hid hx2; clear hx2
    go_wp2_with fail
    go_ret
    exact ⟨x, rfl, HX2.out, HBW3.out⟩
  | false =>
    have HC2 := Lib.hid hc2; clear hc2; have HBW2 := Lib.hid hbw2; clear hbw2
    go_wp2_with fail
    refine (l1Draw_calls 4 (by decide) pb a cap l _ HC2.out).mono ?_
    rintro e w3 ⟨k3, n3, s3, ds3, a3, cap3, ms3, rfl, hi3, hm3, hw3, hct3, hc3, ho3⟩
    have hz3 := ho3.size
    have hct3' : 1 + Dat.countL ds3 ≤ 341 := by simpa [nB] using hct3
    clear hct3
    have HC3 := Lib.hid hc3; clear hc3; have HO3 := Lib.hid ho3; clear ho3; have HI3 := Lib.hid hi3; clear hi3; have HM3 := Lib.hid hm3; clear hm3; have HW3 := Lib.hid hw3; clear hw3; have HCT3' := Lib.hid hct3'; clear hct3'
    go_wp2_with fail
    refine (l1Draw_calls 3 (by decide) pb a cap l _ HC3.out).mono ?_
    rintro e w4 ⟨k4, n4, s4, ds4, a4, cap4, ms4, rfl, hi4, hm4, hw4, hct4, hc4, ho4⟩
    have hz4 := ho4.size
    have hct4' : 1 + Dat.countL ds4 ≤ 341 := by have : 1 + Dat.countL ds4 ≤ 85 := by simpa [nB] using hct4
                                                omega
    clear hct4
    have hbw4 : Below w.heap.size w w4 := (HBW2.out.trans (HO3.out.below (by omega) (by omega))).trans (ho4.below (by omega) (by omega))
    have hrow := twoData (k3 := k3) (n3 := n3) (k4 := k4) (n4 := n4) (s3 := s3) (s4 := s4) HM3.out hm4 ho4 (by omega) hz3
    have hisl : Dat.IsL 40 [.mk k3 n3 s3 ds3, .mk k4 n4 s4 ds4] [.ag [.c (.int .i64 k3), .c (.int .i64 n3), .c (.string s3), .sl a3 cap3 4 40 ms3], .ag [.c (.int .i64 k4), .c (.int .i64 n4), .c (.string s4), .sl a4 cap4 4 40 ms4]] := ⟨_, _, rfl, ⟨_, _, _, rfl, HI3.out⟩, _, _, rfl, ⟨_, _, _, rfl, hi4⟩, rfl⟩
    have hwf : Dat.wfL [.mk k3 n3 s3 ds3, .mk k4 n4 s4 ds4] := ⟨HW3.out, hw4, trivial⟩
    have hcnt : Dat.countL [.mk k3 n3 s3 ds3, .mk k4 n4 s4 ds4] ≤ 1000000000 := by have := HCT3'.out; simp only [Dat.countL, Dat.count]; omega
    have hfs := fmtsOf_length [.mk k3 n3 s3 ds3, .mk k4 n4 s4 ds4]
    clear hw4 hi4 hm4 ho4 hct4'
    have HC4 := Lib.hid hc4; clear hc4; have HBW4 := Lib.hid hbw4; clear hbw4; have HROW := Lib.hid hrow; clear hrow; have HISL := Lib.hid hisl; clear hisl; have HWF := Lib.hid hwf; clear hwf; have HCNT := Lib.hid hcnt; clear hcnt
    go_wp2_with fail
    refine (sFormatData2_calls _ _ 2 _ _ HWF.out HCNT.out HISL.out HROW.out.in_).mono ?_
    rintro e w5 ⟨rfl, hb5⟩
    generalize hF : fmtsOf [.mk k3 n3 s3 ds3, .mk k4 n4 s4 ds4] = F at hfs
    have hz5 := hb5.size
    simp only [World.size_alloc] at hz5
    have hbw5 : Below w.heap.size w w5 := (show Below w.heap.size w (w4.alloc (.cells #[.int .i64 k3, .int .i64 n3, .string s3, .slice a3 ms3.length cap3, .int .i64 k4, .int .i64 n4, .string s4, .slice a4 ms4.length cap4] 40)) by (repeat (first | with_reducible assumption | with_reducible exact Below.refl _ _ | with_reducible refine Below.drew ?_ | with_reducible refine belowDrewN ?_ _ | ((with_reducible refine Below.setCell ?_ ?_ _); rotate_left; focus (first | omega | (simp; done) | (simp; omega))) | ((with_reducible refine Below.alloc ?_ ?_ _); rotate_left; focus (first | omega | (simp; done) | (simp; omega))) | ((with_reducible refine Below.trans ?_ (Below.mono HBW4.out ?_)); rotate_left; focus (first | omega | (simp; done) | (simp; omega)))))).trans (hb5.mono (by simp; omega))
    have hc5 : Cur pb a cap l w5 := HC4.out.below (by (repeat (first | with_reducible assumption | with_reducible exact Below.refl _ _ | with_reducible refine Below.drew ?_ | with_reducible refine belowDrewN ?_ _ | ((with_reducible refine Below.setCell ?_ ?_ _); rotate_left; focus (first | omega | (simp; done) | (simp; omega))) | ((with_reducible refine Below.alloc ?_ ?_ _); rotate_left; focus (first | omega | (simp; done) | (simp; omega))) | ((with_reducible refine Below.trans ?_ (Below.mono hb5 ?_)); rotate_left; focus (first | omega | (simp; done) | (simp; omega))))))
    have hFz : (⟨F.toArray⟩ : ByteArray).size = F.length := by simp [ByteArray.size]
    generalize hG : (⟨F.toArray⟩ : ByteArray) = G at hFz
    have hGz : G.size ≤ 13800 := by omega
    clear hFz hG hF hfs hb5
    have HC5 := Lib.hid hc5; clear hc5; have HBW5 := Lib.hid hbw5; clear hbw5
    go_wp2_with fail
    refine (l01Once_calls 3 pb a cap l _ HC5.out (by decide) (by decide)).mono ?_
    rintro e w6 ⟨bb, rfl, hc6, ho6⟩
    have hz6 := ho6.size
    have hbw6 : Below w.heap.size w w6 := HBW5.out.trans (ho6.below (by omega) (by omega))
    clear ho6
    cases bb with
    | false =>
      have hx2 : G.size ≤ 100000 := by omega
      have HC6 := Lib.hid hc6; clear hc6; have HBW6 := Lib.hid hbw6; clear hbw6
      go_wp2_with fail
      go_ret
      exact ⟨G, rfl, hx2, HBW6.out⟩
    | true =>
      have HC6 := Lib.hid hc6; clear hc6; have HBW6 := Lib.hid hbw6; clear hbw6
      go_wp2_with fail
      refine (l01Below_calls (G.size + 1) pb a cap l _ HC6.out (by omega) (by omega)).mono ?_
      rintro e w7 ⟨x, rfl, hx0, hx1, hc7, ho7⟩
      obtain ⟨t, rfl⟩ := Int.eq_ofNat_of_zero_le hx0
      have htG : (t : Int) ≤ (G.size : Int) := by omega
      have ht0 : (0 : Int) ≤ (t : Int) := by omega
      have hz7 := ho7.size
      have hbw7 : Below w.heap.size w w7 := HBW6.out.trans (ho7.below (by omega) (by omega))
      have hc7d : Cur pb a cap l w7.drew := hc7.below ((Below.refl _ _).drew)
      clear ho7 hx1
      have HC7 := Lib.hid hc7; clear hc7; have HBW7 := Lib.hid hbw7; clear hbw7; have HC7D := Lib.hid hc7d; clear hc7d
      go_wp2_with fail
      go_region_held3 (fun _ => True) (trivial)
        (first | (go_at_call 34; (refine (l01Pick_lit _ _ pb a cap l w7.drew HC7D.out ?size (by decide) (by decide) ?texts).mono ?_); (case size => rfl); (case texts => exact Texts.of (by rfl)); rintro e w8 ⟨y, rfl, hy, hc8, ho8⟩; have hcat1 : ¬ 9223372036854775807 < min t G.size + y.size := (by omega); have hcat2 : ¬ 9223372036854775807 < min t G.size + y.size + (G.size - t) := (by omega)))
      have hR : (G.extract 0 t ++ y ++ G.extract t G.size).size ≤ 100000 := by
        simp only [ByteArray.size_append, ByteArray.size_extract]
        omega
      have hbw8 : Below w.heap.size w w8 := HBW7.out.drew.trans (ho8.below (by omega) (by rw [World.size_drew]; omega))
      clear hcat1 hcat2 ho8 hc8
      have HR := Lib.hid hR; clear hR; have HBW8 := Lib.hid hbw8; clear hbw8
      go_wp2_with fail
      go_ret
      exact ⟨_, rfl, HR.out, HBW8.out⟩
end Go.Proofs.YtghbnehocggnnaaDoor

/-
  Walks: EqualData. No condition.
-/
set_option linter.unusedVariables false
set_option linter.unusedSimpArgs false
set_option maxRecDepth 100000
namespace Go.Proofs.YtghbnehocggnnaaDoor
open Go.RowKit

open Classical in
noncomputable def eqDB (x y : Dat) : Bool := decide (x = y)
theorem eqDB_iff (x y : Dat) : eqDB x y = true ↔ x = y := by simp [eqDB]
theorem eqDB_not (x y : Dat) : eqDB x y = false ↔ ¬ x = y := by simp [eqDB]
def iEDs (ds : List Dat) : Prop := ∀ (k n : Int) (s : ByteArray) (a : Option Addr) (cap : Nat) (ms : List M) (k' n' : Int) (s' : ByteArray) (a' : Option Addr) (cap' : Nat) (ds' : List Dat) (ms' : List M) (w : World),
    Dat.IsL 40 ds ms → (M.sl a cap 4 40 ms).In w → Dat.IsL 40 ds' ms' → (M.sl a' cap' 4 40 ms').In w →
    Calls Tryd.prog 14 #[.agg #[.int .i64 k, .int .i64 n, .string s, .slice a ms.length cap], .agg #[.int .i64 k', .int .i64 n', .string s', .slice a' ms'.length cap']] w (Ret (.bool (eqDB (.mk k n s ds) (.mk k' n' s' ds'))) w)
theorem iEqualData_calls : ∀ ds, iEDs ds := by
  refine Dat.inductL fun ds ih => ?_
  intro k n s a cap ms k' n' s' a' cap' ds' ms' w hi hin hi' hin'
  have hln := hi.length
  have hln' := hi'.length
  have hcapm := hin.len
  have hcapm' := hin'.len
  by_cases hk : k = k'
  · subst hk
    by_cases hn : n = n'
    · subst hn
      by_cases hs : s = s'
      · subst hs
        by_cases hl : ms.length = ms'.length
        · have hl' : ((ms.length : Int) != (ms'.length : Int)) = false := by simp [hl]
          have IH := Lib.hid ih; clear ih; have HIN := Lib.hid hin; clear hin; have HI := Lib.hid hi; clear hi; have HIN' := Lib.hid hin'; clear hin'; have HI' := Lib.hid hi'; clear hi'; have HLN := Lib.hid hln; clear hln; have HLN' := Lib.hid hln'; clear hln'; have HL := Lib.hid hl; clear hl
          go_enter Tryd.func14, Tryd.ntmps14
          go_wp2_with fail
          go_loopw [37] (fun i wr => ∃ j : Nat, j ≤ ms.length ∧ i = .int .i64 j ∧ ds.take j = ds'.take j ∧ wr.cell? ⟨w.heap.size, 3, none⟩ = some (.slice a ms.length cap) ∧ wr.cell? ⟨w.heap.size + 1, 3, none⟩ = some (.slice a' ms'.length cap') ∧ Below w.heap.size w wr ∧ w.heap.size + 1 + 1 ≤ wr.heap.size) (fun i _ => ms.length - (intOf i).toNat)
          case atStart => exact ⟨0, Nat.zero_le _, rfl, by simp, by simp [go_sem], by simp [go_sem], by (repeat (first | with_reducible assumption | with_reducible exact Below.refl _ _ | with_reducible refine Below.drew ?_ | with_reducible refine belowDrewN ?_ _ | ((with_reducible refine Below.setCell ?_ ?_ _); rotate_left; focus (first | omega | (simp; done) | (simp; omega))) | ((with_reducible refine Below.alloc ?_ ?_ _); rotate_left; focus (first | omega | (simp; done) | (simp; omega))))), by simp⟩
          case round =>
            obtain ⟨j, hj, rfl, hpre, q1, q2, hb, hsz⟩ := hrel
            by_cases hlt : j < ms.length
            · have hlt' : j < ms'.length := by have := HL.out; omega
              obtain ⟨b, off, k1, n1, s1, ds1, a1, cap1, ms1, rfl, hd, hi1, hin1, c0, c1, c2, c3⟩ := Dat.elem (HIN.out.below hb) HI.out j hlt
              obtain ⟨b', off', k1', n1', s1', ds1', a1', cap1', ms1', rfl, hd', hi1', hin1', c0', c1', c2', c3'⟩ := Dat.elem (HIN'.out.below hb) HI'.out j hlt'
              have hbl := World.block_lt_of_cell? wr _ c0
              have hbl' := World.block_lt_of_cell? wr _ c0'
              have p1 : w.heap.size < wr.heap.size := by omega
              have p2 : w.heap.size + 1 < wr.heap.size := by omega
              by_cases heq : Dat.mk k1 n1 s1 ds1 = Dat.mk k1' n1' s1' ds1'
              · have hq : eqDB (Dat.mk k1 n1 s1 ds1) (Dat.mk k1' n1' s1' ds1') = true := (eqDB_iff _ _).2 heq
                have hpre2 := take_eq_succ hpre hd hd' heq
                have HI1 := Lib.hid hi1; clear hi1; have HIN1 := Lib.hid hin1; clear hin1; have HI1' := Lib.hid hi1'; clear hi1'; have HIN1' := Lib.hid hin1'; clear hin1'; have HD := Lib.hid hd; clear hd; have HD' := Lib.hid hd'; clear hd'; have HPRE := Lib.hid hpre; clear hpre; have HPRE2 := Lib.hid hpre2; clear hpre2; have HEQ := Lib.hid heq; clear heq
                go_wp2_with fail
                go_region_held3 (fun w' => (w'.cell? ⟨w.heap.size, 3, none⟩ = some (.slice (some ⟨b, off, none⟩) ms.length cap) ∧ w'.cell? ⟨w.heap.size + 1, 3, none⟩ = some (.slice (some ⟨b', off', none⟩) ms'.length cap')) ∧ w'.cell? ⟨b, off + j * 4, none⟩ = some (.int .i64 k1) ∧ w'.cell? ⟨b, off + j * 4 + 1, none⟩ = some (.int .i64 n1) ∧ w'.cell? ⟨b, off + j * 4 + 2, none⟩ = some (.string s1) ∧ w'.cell? ⟨b, off + j * 4 + 3, none⟩ = some (.slice a1 ms1.length cap1) ∧ w'.cell? ⟨b', off' + j * 4, none⟩ = some (.int .i64 k1') ∧ w'.cell? ⟨b', off' + j * 4 + 1, none⟩ = some (.int .i64 n1') ∧ w'.cell? ⟨b', off' + j * 4 + 2, none⟩ = some (.string s1') ∧ w'.cell? ⟨b', off' + j * 4 + 3, none⟩ = some (.slice a1' ms1'.length cap1'))
                  (first | exact ⟨⟨q1, q2⟩, c0, c1, c2, c3, c0', c1', c2', c3'⟩ | exact ⟨⟨(hc1 _ _ p1).trans q1, (hc1 _ _ p2).trans q2⟩, (hc1 _ _ hbl).trans c0, (hc1 _ _ hbl).trans c1, (hc1 _ _ hbl).trans c2, (hc1 _ _ hbl).trans c3, (hc1 _ _ hbl').trans c0', (hc1 _ _ hbl').trans c1', (hc1 _ _ hbl').trans c2', (hc1 _ _ hbl').trans c3'⟩)
                  (first | (go_at_call 14; refine (IH.out k1 n1 s1 ds1 (List.mem_of_getElem? HD.out) k1 n1 s1 a1 cap1 ms1 k1' n1' s1' a1' cap1' ds1' ms1' _ HI1.out (HIN1.out.below (by (repeat (first | with_reducible assumption | with_reducible exact Below.refl _ _ | with_reducible refine Below.drew ?_ | with_reducible refine belowDrewN ?_ _ | ((with_reducible refine Below.setCell ?_ ?_ _); rotate_left; focus (first | omega | (simp; done) | (simp; omega))) | ((with_reducible refine Below.alloc ?_ ?_ _); rotate_left; focus (first | omega | (simp; done) | (simp; omega))))))) HI1'.out (HIN1'.out.below (by (repeat (first | with_reducible assumption | with_reducible exact Below.refl _ _ | with_reducible refine Below.drew ?_ | with_reducible refine belowDrewN ?_ _ | ((with_reducible refine Below.setCell ?_ ?_ _); rotate_left; focus (first | omega | (simp; done) | (simp; omega))) | ((with_reducible refine Below.alloc ?_ ?_ _); rotate_left; focus (first | omega | (simp; done) | (simp; omega)))))))).mono ?_; rintro e w1 ⟨rfl, hb1⟩; obtain ⟨hc1, hf1⟩ := bcell hb1))
                have hz1 := hb1.size
                simp only [World.size_drew] at hz1
                have q1' := (hc1 _ _ p1).trans q1
                have q2' := (hc1 _ _ p2).trans q2
                go_wp2_with fail
                go_roundw
                case rel => exact ⟨j + 1, by omega, by go_num, HPRE2.out, q1', q2', by (repeat (first | with_reducible assumption | with_reducible exact Below.refl _ _ | with_reducible refine Below.drew ?_ | with_reducible refine belowDrewN ?_ _ | ((with_reducible refine Below.setCell ?_ ?_ _); rotate_left; focus (first | omega | (simp; done) | (simp; omega))) | ((with_reducible refine Below.alloc ?_ ?_ _); rotate_left; focus (first | omega | (simp; done) | (simp; omega))) | ((with_reducible refine Below.trans ?_ (Below.mono hb1 ?_)); rotate_left; focus (first | omega | (simp; done) | (simp; omega))))), by omega⟩
                case measure => simp [intOf]; omega
              · have hq : eqDB (Dat.mk k1 n1 s1 ds1) (Dat.mk k1' n1' s1' ds1') = false := (eqDB_not _ _).2 heq
                have hne := ne_of_get hd hd' heq
                have HI1 := Lib.hid hi1; clear hi1; have HIN1 := Lib.hid hin1; clear hin1; have HI1' := Lib.hid hi1'; clear hi1'; have HIN1' := Lib.hid hin1'; clear hin1'; have HD := Lib.hid hd; clear hd; have HD' := Lib.hid hd'; clear hd'; have HPRE := Lib.hid hpre; clear hpre; have HNE := Lib.hid hne; clear hne; have HEQ := Lib.hid heq; clear heq
                go_wp2_with fail
                go_region_held3 (fun w' => (w'.cell? ⟨w.heap.size, 3, none⟩ = some (.slice (some ⟨b, off, none⟩) ms.length cap) ∧ w'.cell? ⟨w.heap.size + 1, 3, none⟩ = some (.slice (some ⟨b', off', none⟩) ms'.length cap')) ∧ w'.cell? ⟨b, off + j * 4, none⟩ = some (.int .i64 k1) ∧ w'.cell? ⟨b, off + j * 4 + 1, none⟩ = some (.int .i64 n1) ∧ w'.cell? ⟨b, off + j * 4 + 2, none⟩ = some (.string s1) ∧ w'.cell? ⟨b, off + j * 4 + 3, none⟩ = some (.slice a1 ms1.length cap1) ∧ w'.cell? ⟨b', off' + j * 4, none⟩ = some (.int .i64 k1') ∧ w'.cell? ⟨b', off' + j * 4 + 1, none⟩ = some (.int .i64 n1') ∧ w'.cell? ⟨b', off' + j * 4 + 2, none⟩ = some (.string s1') ∧ w'.cell? ⟨b', off' + j * 4 + 3, none⟩ = some (.slice a1' ms1'.length cap1'))
                  (first | exact ⟨⟨q1, q2⟩, c0, c1, c2, c3, c0', c1', c2', c3'⟩ | exact ⟨⟨(hc1 _ _ p1).trans q1, (hc1 _ _ p2).trans q2⟩, (hc1 _ _ hbl).trans c0, (hc1 _ _ hbl).trans c1, (hc1 _ _ hbl).trans c2, (hc1 _ _ hbl).trans c3, (hc1 _ _ hbl').trans c0', (hc1 _ _ hbl').trans c1', (hc1 _ _ hbl').trans c2', (hc1 _ _ hbl').trans c3'⟩)
                  (first | (go_at_call 14; refine (IH.out k1 n1 s1 ds1 (List.mem_of_getElem? HD.out) k1 n1 s1 a1 cap1 ms1 k1' n1' s1' a1' cap1' ds1' ms1' _ HI1.out (HIN1.out.below (by (repeat (first | with_reducible assumption | with_reducible exact Below.refl _ _ | with_reducible refine Below.drew ?_ | with_reducible refine belowDrewN ?_ _ | ((with_reducible refine Below.setCell ?_ ?_ _); rotate_left; focus (first | omega | (simp; done) | (simp; omega))) | ((with_reducible refine Below.alloc ?_ ?_ _); rotate_left; focus (first | omega | (simp; done) | (simp; omega))))))) HI1'.out (HIN1'.out.below (by (repeat (first | with_reducible assumption | with_reducible exact Below.refl _ _ | with_reducible refine Below.drew ?_ | with_reducible refine belowDrewN ?_ _ | ((with_reducible refine Below.setCell ?_ ?_ _); rotate_left; focus (first | omega | (simp; done) | (simp; omega))) | ((with_reducible refine Below.alloc ?_ ?_ _); rotate_left; focus (first | omega | (simp; done) | (simp; omega)))))))).mono ?_; rintro e w1 ⟨rfl, hb1⟩; obtain ⟨hc1, hf1⟩ := bcell hb1))
                go_wp2_with fail
                go_ret
                exact ⟨ret_b ((eqDB_not _ _).2 (by intro e; simp only [Dat.mk.injEq] at e; exact HNE.out e.2.2.2)).symm, by (repeat (first | with_reducible assumption | with_reducible exact Below.refl _ _ | with_reducible refine Below.drew ?_ | with_reducible refine belowDrewN ?_ _ | ((with_reducible refine Below.setCell ?_ ?_ _); rotate_left; focus (first | omega | (simp; done) | (simp; omega))) | ((with_reducible refine Below.alloc ?_ ?_ _); rotate_left; focus (first | omega | (simp; done) | (simp; omega))) | ((with_reducible refine Below.trans ?_ (Below.mono hb1 ?_)); rotate_left; focus (first | omega | (simp; done) | (simp; omega)))))⟩
            · go_wp2_with fail
              go_ret
              have hj2 : j = ms.length := by omega
              subst hj2
              refine ⟨ret_b ((eqDB_iff _ _).2 ?_).symm, hb⟩
              have hpre' := hpre
              rw [HLN.out, List.take_length, ← HLN.out, HL.out, HLN'.out, List.take_length] at hpre'
              rw [hpre']
        · have hl' : ((ms.length : Int) != (ms'.length : Int)) = true := by simp; omega
          have IH := Lib.hid ih; clear ih; have HIN := Lib.hid hin; clear hin; have HI := Lib.hid hi; clear hi; have HIN' := Lib.hid hin'; clear hin'; have HI' := Lib.hid hi'; clear hi'; have HLN := Lib.hid hln; clear hln; have HLN' := Lib.hid hln'; clear hln'; have HL := Lib.hid hl; clear hl
          go_enter Tryd.func14, Tryd.ntmps14
          go_wp2_with fail
          go_ret
          exact ⟨ret_b ((eqDB_not _ _).2 (by intro e; simp only [Dat.mk.injEq] at e; exact HL.out (by rw [HLN.out, HLN'.out, e.2.2.2]))).symm, by (repeat (first | with_reducible assumption | with_reducible exact Below.refl _ _ | with_reducible refine Below.drew ?_ | with_reducible refine belowDrewN ?_ _ | ((with_reducible refine Below.setCell ?_ ?_ _); rotate_left; focus (first | omega | (simp; done) | (simp; omega))) | ((with_reducible refine Below.alloc ?_ ?_ _); rotate_left; focus (first | omega | (simp; done) | (simp; omega)))))⟩
      · have hb := ba_ne hs
        have IH := Lib.hid ih; clear ih; have HIN := Lib.hid hin; clear hin; have HI := Lib.hid hi; clear hi; have HIN' := Lib.hid hin'; clear hin'; have HI' := Lib.hid hi'; clear hi'; have HLN := Lib.hid hln; clear hln; have HLN' := Lib.hid hln'; clear hln'; have HS := Lib.hid hs; clear hs
        go_enter Tryd.func14, Tryd.ntmps14
        go_wp2_with fail
        go_ret
        exact ⟨ret_b ((eqDB_not _ _).2 (by intro e; simp only [Dat.mk.injEq] at e; exact HS.out e.2.2.1)).symm, by (repeat (first | with_reducible assumption | with_reducible exact Below.refl _ _ | with_reducible refine Below.drew ?_ | with_reducible refine belowDrewN ?_ _ | ((with_reducible refine Below.setCell ?_ ?_ _); rotate_left; focus (first | omega | (simp; done) | (simp; omega))) | ((with_reducible refine Below.alloc ?_ ?_ _); rotate_left; focus (first | omega | (simp; done) | (simp; omega)))))⟩
    · have hb : (n != n') = true := by simp [hn]
      have IH := Lib.hid ih; clear ih; have HIN := Lib.hid hin; clear hin; have HI := Lib.hid hi; clear hi; have HIN' := Lib.hid hin'; clear hin'; have HI' := Lib.hid hi'; clear hi'; have HLN := Lib.hid hln; clear hln; have HLN' := Lib.hid hln'; clear hln'; have HN := Lib.hid hn; clear hn
      go_enter Tryd.func14, Tryd.ntmps14
      go_wp2_with fail
      go_ret
      exact ⟨ret_b ((eqDB_not _ _).2 (by intro e; simp only [Dat.mk.injEq] at e; exact HN.out e.2.1)).symm, by (repeat (first | with_reducible assumption | with_reducible exact Below.refl _ _ | with_reducible refine Below.drew ?_ | with_reducible refine belowDrewN ?_ _ | ((with_reducible refine Below.setCell ?_ ?_ _); rotate_left; focus (first | omega | (simp; done) | (simp; omega))) | ((with_reducible refine Below.alloc ?_ ?_ _); rotate_left; focus (first | omega | (simp; done) | (simp; omega)))))⟩
  · have hb : (k != k') = true := by simp [hk]
    have IH := Lib.hid ih; clear ih; have HIN := Lib.hid hin; clear hin; have HI := Lib.hid hi; clear hi; have HIN' := Lib.hid hin'; clear hin'; have HI' := Lib.hid hi'; clear hi'; have HLN := Lib.hid hln; clear hln; have HLN' := Lib.hid hln'; clear hln'; have HK := Lib.hid hk; clear hk
    go_enter Tryd.func14, Tryd.ntmps14
    go_wp2_with fail
    go_ret
    exact ⟨ret_b ((eqDB_not _ _).2 (by intro e; simp only [Dat.mk.injEq] at e; exact HK.out e.1)).symm, by (repeat (first | with_reducible assumption | with_reducible exact Below.refl _ _ | with_reducible refine Below.drew ?_ | with_reducible refine belowDrewN ?_ _ | ((with_reducible refine Below.setCell ?_ ?_ _); rotate_left; focus (first | omega | (simp; done) | (simp; omega))) | ((with_reducible refine Below.alloc ?_ ?_ _); rotate_left; focus (first | omega | (simp; done) | (simp; omega)))))⟩
end Go.Proofs.YtghbnehocggnnaaDoor
