/-
  Walks: data drawn. No condition. (printed by wip/tools/mkq6.py)
-/
import Derived.Test.YtoflfamfhpijcaaQ6
import Derived.Test.YtoflfamfhpijcaaStep3
import Derived.Test.YtoflfamfhpijcaaC2
set_option linter.unusedVariables false
set_option linter.unusedSimpArgs false
set_option maxRecDepth 100000
namespace Go.Proofs.Ytoflfamfhpijcaa
open Go.RowKit

def DrD (d : Nat) : Prop := ∀ (pb : Nat) (a : Option Addr) (cap : Nat) (l : List Int) (w : World), Cur pb a cap l w → Calls Try.prog 114 #[.pointer (some ⟨pb, 0, none⟩), .int .i64 d] w (DrawnD (nB d) pb a cap l w)
set_option maxHeartbeats 4000000 in
theorem l1Draw_leaf (d : Nat) (hd1 : (d : Int) ≤ 1) : DrD d := by
  intro pb a cap l w hc
  have hpl := hc.lt
  have HC := Lib.hid hc; clear hc
  go_enter Try.func114, Try.ntmps114
  go_wp2_with fail
  refine (l01Below_calls 9 pb a cap l _ (HC.out.below (by (repeat (first | with_reducible assumption | with_reducible exact Below.refl _ _ | with_reducible refine Below.drew ?_ | with_reducible refine belowDrewN ?_ _ | ((with_reducible refine Below.setCell ?_ ?_ _); rotate_left; focus (first | omega | (simp; done) | (simp; omega))) | ((with_reducible refine Below.alloc ?_ ?_ _); rotate_left; focus (first | omega | (simp; done) | (simp; omega))))))) (by decide) (by decide)).mono ?_
  rintro e w1 ⟨x, rfl, hx0, hx1, hc1, ho1⟩
  have hz1 := ho1.size
  simp only [World.size_alloc] at hz1
  have hzz := (Zero.new w).only ho1 (.inr (by omega))
  have hoo : OnlyIn pb (pb + 1) w w1 := ((OnlyIn.refl _ _ _).new _).trans ho1
  have HZ1 := Lib.hid hzz; clear hzz
  have HC1 := Lib.hid hc1; clear hc1; have HO1 := Lib.hid ho1; clear ho1; have HOO := Lib.hid hoo; clear hoo
  have hx : x = 0 ∨ x = 1 ∨ x = 2 ∨ x = 3 ∨ x = 4 ∨ x = 5 ∨ x = 6 ∨ x = 7 ∨ x = 8 := by omega
  clear hx0 hx1
  rcases hx with rfl | rfl | rfl | rfl | rfl | rfl | rfl | rfl | rfl
  · go_wp2_with fail
    refine (l01Pick_lit _ _ pb a cap l _ HC1.out ?size (by decide) (by decide) ?texts).mono ?_
    case size => rfl
    case texts => exact Texts.of (by rfl)
    rintro e w2 ⟨x2, rfl, hx2, hc2, ho2⟩
    have hz2 := ho2.size
    have HZ2 := Lib.hid (HZ1.out.only ho2 (.inr (by omega)))
    have HC2 := Lib.hid hc2; clear hc2; have HO2 := Lib.hid ho2; clear ho2
    go_wp2_with fail
    refine (leafSym _ _ hx2).mono ?_
    rintro e w3 ⟨k3, n3, s3, a3, c3, m3, rfl, hi3, hm3, hw3, hb3⟩
    obtain ⟨r0, r1, r2, r3, g0, g1, g2, g3⟩ := HZ2.out.below hb3 (by omega)
    have hc3 := HC2.out.below hb3
    have ho3 := (HOO.out.trans HO2.out).thenBelow (hb3.mono (by omega))
    have HI3 := Lib.hid hi3; clear hi3; have HW3 := Lib.hid hw3; clear hw3; have HM3 := Lib.hid hm3; clear hm3; have HC3 := Lib.hid hc3; clear hc3; have HO3 := Lib.hid ho3; clear ho3; have HB3 := Lib.hid hb3; clear hb3
    go_wp2_with fail
    refine bodyPost_ret (v := .agg #[.int .i64 k3, .int .i64 n3, .string s3, .slice a3 m3.length c3]) (by simp [results, Try.results114, go_sem, r0, r1, r2, r3]) rfl ?_
    refine ⟨k3, n3, s3, [], a3, c3, m3, rfl, HI3.out, ?_, HW3.out, by simp [Dat.countL]; exact nB_pos _, ?_, ?_⟩
    · (exact M.Mine.mono (M.Mine.keep HM3.out (fun b hb1 hb2 => by (try simp at hb1); simp (disch := (first | omega | (simp; omega))) only [heapSet, heapNew, heapDrew, heapDrewN])) (by first | omega | (simp; done) | (simp; omega)))
    · exact HC3.out.belowB (B := w.heap.size) (by (repeat (first | with_reducible assumption | with_reducible exact Below.refl _ _ | with_reducible refine Below.drew ?_ | with_reducible refine belowDrewN ?_ _ | ((with_reducible refine Below.setCell ?_ ?_ _); rotate_left; focus (first | omega | (simp; done) | (simp; omega))) | ((with_reducible refine Below.alloc ?_ ?_ _); rotate_left; focus (first | omega | (simp; done) | (simp; omega)))))) hpl
    · exact HO3.out.thenBelow (by (repeat (first | with_reducible assumption | with_reducible exact Below.refl _ _ | with_reducible refine Below.drew ?_ | with_reducible refine belowDrewN ?_ _ | ((with_reducible refine Below.setCell ?_ ?_ _); rotate_left; focus (first | omega | (simp; done) | (simp; omega))) | ((with_reducible refine Below.alloc ?_ ?_ _); rotate_left; focus (first | omega | (simp; done) | (simp; omega))))))
  · go_wp2_with fail
    refine (l01Pick_lit _ _ pb a cap l _ HC1.out ?size (by decide) (by decide) ?texts).mono ?_
    case size => rfl
    case texts => exact Texts.of (by rfl)
    rintro e w2 ⟨x2, rfl, hx2, hc2, ho2⟩
    have hz2 := ho2.size
    have HZ2 := Lib.hid (HZ1.out.only ho2 (.inr (by omega)))
    have HC2 := Lib.hid hc2; clear hc2; have HO2 := Lib.hid ho2; clear ho2
    go_wp2_with fail
    refine (leafSym _ _ hx2).mono ?_
    rintro e w3 ⟨k3, n3, s3, a3, c3, m3, rfl, hi3, hm3, hw3, hb3⟩
    obtain ⟨r0, r1, r2, r3, g0, g1, g2, g3⟩ := HZ2.out.below hb3 (by omega)
    have hc3 := HC2.out.below hb3
    have ho3 := (HOO.out.trans HO2.out).thenBelow (hb3.mono (by omega))
    have HI3 := Lib.hid hi3; clear hi3; have HW3 := Lib.hid hw3; clear hw3; have HM3 := Lib.hid hm3; clear hm3; have HC3 := Lib.hid hc3; clear hc3; have HO3 := Lib.hid ho3; clear ho3; have HB3 := Lib.hid hb3; clear hb3
    go_wp2_with fail
    refine bodyPost_ret (v := .agg #[.int .i64 k3, .int .i64 n3, .string s3, .slice a3 m3.length c3]) (by simp [results, Try.results114, go_sem, r0, r1, r2, r3]) rfl ?_
    refine ⟨k3, n3, s3, [], a3, c3, m3, rfl, HI3.out, ?_, HW3.out, by simp [Dat.countL]; exact nB_pos _, ?_, ?_⟩
    · (exact M.Mine.mono (M.Mine.keep HM3.out (fun b hb1 hb2 => by (try simp at hb1); simp (disch := (first | omega | (simp; omega))) only [heapSet, heapNew, heapDrew, heapDrewN])) (by first | omega | (simp; done) | (simp; omega)))
    · exact HC3.out.belowB (B := w.heap.size) (by (repeat (first | with_reducible assumption | with_reducible exact Below.refl _ _ | with_reducible refine Below.drew ?_ | with_reducible refine belowDrewN ?_ _ | ((with_reducible refine Below.setCell ?_ ?_ _); rotate_left; focus (first | omega | (simp; done) | (simp; omega))) | ((with_reducible refine Below.alloc ?_ ?_ _); rotate_left; focus (first | omega | (simp; done) | (simp; omega)))))) hpl
    · exact HO3.out.thenBelow (by (repeat (first | with_reducible assumption | with_reducible exact Below.refl _ _ | with_reducible refine Below.drew ?_ | with_reducible refine belowDrewN ?_ _ | ((with_reducible refine Below.setCell ?_ ?_ _); rotate_left; focus (first | omega | (simp; done) | (simp; omega))) | ((with_reducible refine Below.alloc ?_ ?_ _); rotate_left; focus (first | omega | (simp; done) | (simp; omega))))))
  · go_wp2_with fail
    refine (l01Int_lit _ _ pb a cap l _ HC1.out ?size (by decide) (by decide) ?texts).mono ?_
    case size => rfl
    case texts => exact Nums.of (by rfl)
    rintro e w2 ⟨x2, rfl, hx2, hc2, ho2⟩
    have hz2 := ho2.size
    have HZ2 := Lib.hid (HZ1.out.only ho2 (.inr (by omega)))
    have HC2 := Lib.hid hc2; clear hc2; have HO2 := Lib.hid ho2; clear ho2
    go_wp2_with fail
    refine (leafNum _ _ hx2).mono ?_
    rintro e w3 ⟨k3, n3, s3, a3, c3, m3, rfl, hi3, hm3, hw3, hb3⟩
    obtain ⟨r0, r1, r2, r3, g0, g1, g2, g3⟩ := HZ2.out.below hb3 (by omega)
    have hc3 := HC2.out.below hb3
    have ho3 := (HOO.out.trans HO2.out).thenBelow (hb3.mono (by omega))
    have HI3 := Lib.hid hi3; clear hi3; have HW3 := Lib.hid hw3; clear hw3; have HM3 := Lib.hid hm3; clear hm3; have HC3 := Lib.hid hc3; clear hc3; have HO3 := Lib.hid ho3; clear ho3; have HB3 := Lib.hid hb3; clear hb3
    go_wp2_with fail
    refine bodyPost_ret (v := .agg #[.int .i64 k3, .int .i64 n3, .string s3, .slice a3 m3.length c3]) (by simp [results, Try.results114, go_sem, r0, r1, r2, r3]) rfl ?_
    refine ⟨k3, n3, s3, [], a3, c3, m3, rfl, HI3.out, ?_, HW3.out, by simp [Dat.countL]; exact nB_pos _, ?_, ?_⟩
    · (exact M.Mine.mono (M.Mine.keep HM3.out (fun b hb1 hb2 => by (try simp at hb1); simp (disch := (first | omega | (simp; omega))) only [heapSet, heapNew, heapDrew, heapDrewN])) (by first | omega | (simp; done) | (simp; omega)))
    · exact HC3.out.belowB (B := w.heap.size) (by (repeat (first | with_reducible assumption | with_reducible exact Below.refl _ _ | with_reducible refine Below.drew ?_ | with_reducible refine belowDrewN ?_ _ | ((with_reducible refine Below.setCell ?_ ?_ _); rotate_left; focus (first | omega | (simp; done) | (simp; omega))) | ((with_reducible refine Below.alloc ?_ ?_ _); rotate_left; focus (first | omega | (simp; done) | (simp; omega)))))) hpl
    · exact HO3.out.thenBelow (by (repeat (first | with_reducible assumption | with_reducible exact Below.refl _ _ | with_reducible refine Below.drew ?_ | with_reducible refine belowDrewN ?_ _ | ((with_reducible refine Below.setCell ?_ ?_ _); rotate_left; focus (first | omega | (simp; done) | (simp; omega))) | ((with_reducible refine Below.alloc ?_ ?_ _); rotate_left; focus (first | omega | (simp; done) | (simp; omega))))))
  · go_wp2_with fail
    refine (l01Int_lit _ _ pb a cap l _ HC1.out ?size (by decide) (by decide) ?texts).mono ?_
    case size => rfl
    case texts => exact Nums.of (by rfl)
    rintro e w2 ⟨x2, rfl, hx2, hc2, ho2⟩
    have hz2 := ho2.size
    have HZ2 := Lib.hid (HZ1.out.only ho2 (.inr (by omega)))
    have HC2 := Lib.hid hc2; clear hc2; have HO2 := Lib.hid ho2; clear ho2
    go_wp2_with fail
    refine (leafNum _ _ hx2).mono ?_
    rintro e w3 ⟨k3, n3, s3, a3, c3, m3, rfl, hi3, hm3, hw3, hb3⟩
    obtain ⟨r0, r1, r2, r3, g0, g1, g2, g3⟩ := HZ2.out.below hb3 (by omega)
    have hc3 := HC2.out.below hb3
    have ho3 := (HOO.out.trans HO2.out).thenBelow (hb3.mono (by omega))
    have HI3 := Lib.hid hi3; clear hi3; have HW3 := Lib.hid hw3; clear hw3; have HM3 := Lib.hid hm3; clear hm3; have HC3 := Lib.hid hc3; clear hc3; have HO3 := Lib.hid ho3; clear ho3; have HB3 := Lib.hid hb3; clear hb3
    go_wp2_with fail
    refine bodyPost_ret (v := .agg #[.int .i64 k3, .int .i64 n3, .string s3, .slice a3 m3.length c3]) (by simp [results, Try.results114, go_sem, r0, r1, r2, r3]) rfl ?_
    refine ⟨k3, n3, s3, [], a3, c3, m3, rfl, HI3.out, ?_, HW3.out, by simp [Dat.countL]; exact nB_pos _, ?_, ?_⟩
    · (exact M.Mine.mono (M.Mine.keep HM3.out (fun b hb1 hb2 => by (try simp at hb1); simp (disch := (first | omega | (simp; omega))) only [heapSet, heapNew, heapDrew, heapDrewN])) (by first | omega | (simp; done) | (simp; omega)))
    · exact HC3.out.belowB (B := w.heap.size) (by (repeat (first | with_reducible assumption | with_reducible exact Below.refl _ _ | with_reducible refine Below.drew ?_ | with_reducible refine belowDrewN ?_ _ | ((with_reducible refine Below.setCell ?_ ?_ _); rotate_left; focus (first | omega | (simp; done) | (simp; omega))) | ((with_reducible refine Below.alloc ?_ ?_ _); rotate_left; focus (first | omega | (simp; done) | (simp; omega)))))) hpl
    · exact HO3.out.thenBelow (by (repeat (first | with_reducible assumption | with_reducible exact Below.refl _ _ | with_reducible refine Below.drew ?_ | with_reducible refine belowDrewN ?_ _ | ((with_reducible refine Below.setCell ?_ ?_ _); rotate_left; focus (first | omega | (simp; done) | (simp; omega))) | ((with_reducible refine Below.alloc ?_ ?_ _); rotate_left; focus (first | omega | (simp; done) | (simp; omega))))))
  · go_wp2_with fail
    refine (l01Once_calls _ pb a cap l _ HC1.out (by decide) (by decide)).mono ?_
    rintro e w2 ⟨x2, rfl, hc2, ho2⟩
    have hz2 := ho2.size
    have HZ2 := Lib.hid (HZ1.out.only ho2 (.inr (by omega)))
    have HC2 := Lib.hid hc2; clear hc2; have HO2 := Lib.hid ho2; clear ho2
    go_wp2_with fail
    refine (leafBool _ _).mono ?_
    rintro e w3 ⟨k3, n3, s3, a3, c3, m3, rfl, hi3, hm3, hw3, hb3⟩
    obtain ⟨r0, r1, r2, r3, g0, g1, g2, g3⟩ := HZ2.out.below hb3 (by omega)
    have hc3 := HC2.out.below hb3
    have ho3 := (HOO.out.trans HO2.out).thenBelow (hb3.mono (by omega))
    have HI3 := Lib.hid hi3; clear hi3; have HW3 := Lib.hid hw3; clear hw3; have HM3 := Lib.hid hm3; clear hm3; have HC3 := Lib.hid hc3; clear hc3; have HO3 := Lib.hid ho3; clear ho3; have HB3 := Lib.hid hb3; clear hb3
    go_wp2_with fail
    refine bodyPost_ret (v := .agg #[.int .i64 k3, .int .i64 n3, .string s3, .slice a3 m3.length c3]) (by simp [results, Try.results114, go_sem, r0, r1, r2, r3]) rfl ?_
    refine ⟨k3, n3, s3, [], a3, c3, m3, rfl, HI3.out, ?_, HW3.out, by simp [Dat.countL]; exact nB_pos _, ?_, ?_⟩
    · (exact M.Mine.mono (M.Mine.keep HM3.out (fun b hb1 hb2 => by (try simp at hb1); simp (disch := (first | omega | (simp; omega))) only [heapSet, heapNew, heapDrew, heapDrewN])) (by first | omega | (simp; done) | (simp; omega)))
    · exact HC3.out.belowB (B := w.heap.size) (by (repeat (first | with_reducible assumption | with_reducible exact Below.refl _ _ | with_reducible refine Below.drew ?_ | with_reducible refine belowDrewN ?_ _ | ((with_reducible refine Below.setCell ?_ ?_ _); rotate_left; focus (first | omega | (simp; done) | (simp; omega))) | ((with_reducible refine Below.alloc ?_ ?_ _); rotate_left; focus (first | omega | (simp; done) | (simp; omega)))))) hpl
    · exact HO3.out.thenBelow (by (repeat (first | with_reducible assumption | with_reducible exact Below.refl _ _ | with_reducible refine Below.drew ?_ | with_reducible refine belowDrewN ?_ _ | ((with_reducible refine Below.setCell ?_ ?_ _); rotate_left; focus (first | omega | (simp; done) | (simp; omega))) | ((with_reducible refine Below.alloc ?_ ?_ _); rotate_left; focus (first | omega | (simp; done) | (simp; omega))))))
  · go_wp2_with fail
    refine (l01Pick_lit _ _ pb a cap l _ HC1.out ?size (by decide) (by decide) ?texts).mono ?_
    case size => rfl
    case texts => exact Texts.of (by rfl)
    rintro e w2 ⟨x2, rfl, hx2, hc2, ho2⟩
    have hz2 := ho2.size
    have HZ2 := Lib.hid (HZ1.out.only ho2 (.inr (by omega)))
    have HC2 := Lib.hid hc2; clear hc2; have HO2 := Lib.hid ho2; clear ho2
    go_wp2_with fail
    refine (leafStr _ _ hx2).mono ?_
    rintro e w3 ⟨k3, n3, s3, a3, c3, m3, rfl, hi3, hm3, hw3, hb3⟩
    obtain ⟨r0, r1, r2, r3, g0, g1, g2, g3⟩ := HZ2.out.below hb3 (by omega)
    have hc3 := HC2.out.below hb3
    have ho3 := (HOO.out.trans HO2.out).thenBelow (hb3.mono (by omega))
    have HI3 := Lib.hid hi3; clear hi3; have HW3 := Lib.hid hw3; clear hw3; have HM3 := Lib.hid hm3; clear hm3; have HC3 := Lib.hid hc3; clear hc3; have HO3 := Lib.hid ho3; clear ho3; have HB3 := Lib.hid hb3; clear hb3
    go_wp2_with fail
    refine bodyPost_ret (v := .agg #[.int .i64 k3, .int .i64 n3, .string s3, .slice a3 m3.length c3]) (by simp [results, Try.results114, go_sem, r0, r1, r2, r3]) rfl ?_
    refine ⟨k3, n3, s3, [], a3, c3, m3, rfl, HI3.out, ?_, HW3.out, by simp [Dat.countL]; exact nB_pos _, ?_, ?_⟩
    · (exact M.Mine.mono (M.Mine.keep HM3.out (fun b hb1 hb2 => by (try simp at hb1); simp (disch := (first | omega | (simp; omega))) only [heapSet, heapNew, heapDrew, heapDrewN])) (by first | omega | (simp; done) | (simp; omega)))
    · exact HC3.out.belowB (B := w.heap.size) (by (repeat (first | with_reducible assumption | with_reducible exact Below.refl _ _ | with_reducible refine Below.drew ?_ | with_reducible refine belowDrewN ?_ _ | ((with_reducible refine Below.setCell ?_ ?_ _); rotate_left; focus (first | omega | (simp; done) | (simp; omega))) | ((with_reducible refine Below.alloc ?_ ?_ _); rotate_left; focus (first | omega | (simp; done) | (simp; omega)))))) hpl
    · exact HO3.out.thenBelow (by (repeat (first | with_reducible assumption | with_reducible exact Below.refl _ _ | with_reducible refine Below.drew ?_ | with_reducible refine belowDrewN ?_ _ | ((with_reducible refine Below.setCell ?_ ?_ _); rotate_left; focus (first | omega | (simp; done) | (simp; omega))) | ((with_reducible refine Below.alloc ?_ ?_ _); rotate_left; focus (first | omega | (simp; done) | (simp; omega))))))
  · go_wp2_with fail
    refine (l01Pick_lit _ _ pb a cap l _ HC1.out ?size (by decide) (by decide) ?texts).mono ?_
    case size => rfl
    case texts => exact Texts.of (by rfl)
    rintro e w2 ⟨x2, rfl, hx2, hc2, ho2⟩
    have hz2 := ho2.size
    have HZ2 := Lib.hid (HZ1.out.only ho2 (.inr (by omega)))
    have HC2 := Lib.hid hc2; clear hc2; have HO2 := Lib.hid ho2; clear ho2
    go_wp2_with fail
    refine (leafSym _ _ hx2).mono ?_
    rintro e w3 ⟨k3, n3, s3, a3, c3, m3, rfl, hi3, hm3, hw3, hb3⟩
    obtain ⟨r0, r1, r2, r3, g0, g1, g2, g3⟩ := HZ2.out.below hb3 (by omega)
    have hc3 := HC2.out.below hb3
    have ho3 := (HOO.out.trans HO2.out).thenBelow (hb3.mono (by omega))
    have HI3 := Lib.hid hi3; clear hi3; have HW3 := Lib.hid hw3; clear hw3; have HM3 := Lib.hid hm3; clear hm3; have HC3 := Lib.hid hc3; clear hc3; have HO3 := Lib.hid ho3; clear ho3; have HB3 := Lib.hid hb3; clear hb3
    go_wp2_with fail
    refine bodyPost_ret (v := .agg #[.int .i64 k3, .int .i64 n3, .string s3, .slice a3 m3.length c3]) (by simp [results, Try.results114, go_sem, r0, r1, r2, r3]) rfl ?_
    refine ⟨k3, n3, s3, [], a3, c3, m3, rfl, HI3.out, ?_, HW3.out, by simp [Dat.countL]; exact nB_pos _, ?_, ?_⟩
    · (exact M.Mine.mono (M.Mine.keep HM3.out (fun b hb1 hb2 => by (try simp at hb1); simp (disch := (first | omega | (simp; omega))) only [heapSet, heapNew, heapDrew, heapDrewN])) (by first | omega | (simp; done) | (simp; omega)))
    · exact HC3.out.belowB (B := w.heap.size) (by (repeat (first | with_reducible assumption | with_reducible exact Below.refl _ _ | with_reducible refine Below.drew ?_ | with_reducible refine belowDrewN ?_ _ | ((with_reducible refine Below.setCell ?_ ?_ _); rotate_left; focus (first | omega | (simp; done) | (simp; omega))) | ((with_reducible refine Below.alloc ?_ ?_ _); rotate_left; focus (first | omega | (simp; done) | (simp; omega)))))) hpl
    · exact HO3.out.thenBelow (by (repeat (first | with_reducible assumption | with_reducible exact Below.refl _ _ | with_reducible refine Below.drew ?_ | with_reducible refine belowDrewN ?_ _ | ((with_reducible refine Below.setCell ?_ ?_ _); rotate_left; focus (first | omega | (simp; done) | (simp; omega))) | ((with_reducible refine Below.alloc ?_ ?_ _); rotate_left; focus (first | omega | (simp; done) | (simp; omega))))))
  · go_wp2_with fail
    refine (l01Int_lit _ _ pb a cap l _ HC1.out ?size (by decide) (by decide) ?texts).mono ?_
    case size => rfl
    case texts => exact Nums.of (by rfl)
    rintro e w2 ⟨x2, rfl, hx2, hc2, ho2⟩
    have hz2 := ho2.size
    have HZ2 := Lib.hid (HZ1.out.only ho2 (.inr (by omega)))
    have HC2 := Lib.hid hc2; clear hc2; have HO2 := Lib.hid ho2; clear ho2
    go_wp2_with fail
    refine (leafNum _ _ hx2).mono ?_
    rintro e w3 ⟨k3, n3, s3, a3, c3, m3, rfl, hi3, hm3, hw3, hb3⟩
    obtain ⟨r0, r1, r2, r3, g0, g1, g2, g3⟩ := HZ2.out.below hb3 (by omega)
    have hc3 := HC2.out.below hb3
    have ho3 := (HOO.out.trans HO2.out).thenBelow (hb3.mono (by omega))
    have HI3 := Lib.hid hi3; clear hi3; have HW3 := Lib.hid hw3; clear hw3; have HM3 := Lib.hid hm3; clear hm3; have HC3 := Lib.hid hc3; clear hc3; have HO3 := Lib.hid ho3; clear ho3; have HB3 := Lib.hid hb3; clear hb3
    go_wp2_with fail
    refine bodyPost_ret (v := .agg #[.int .i64 k3, .int .i64 n3, .string s3, .slice a3 m3.length c3]) (by simp [results, Try.results114, go_sem, r0, r1, r2, r3]) rfl ?_
    refine ⟨k3, n3, s3, [], a3, c3, m3, rfl, HI3.out, ?_, HW3.out, by simp [Dat.countL]; exact nB_pos _, ?_, ?_⟩
    · (exact M.Mine.mono (M.Mine.keep HM3.out (fun b hb1 hb2 => by (try simp at hb1); simp (disch := (first | omega | (simp; omega))) only [heapSet, heapNew, heapDrew, heapDrewN])) (by first | omega | (simp; done) | (simp; omega)))
    · exact HC3.out.belowB (B := w.heap.size) (by (repeat (first | with_reducible assumption | with_reducible exact Below.refl _ _ | with_reducible refine Below.drew ?_ | with_reducible refine belowDrewN ?_ _ | ((with_reducible refine Below.setCell ?_ ?_ _); rotate_left; focus (first | omega | (simp; done) | (simp; omega))) | ((with_reducible refine Below.alloc ?_ ?_ _); rotate_left; focus (first | omega | (simp; done) | (simp; omega)))))) hpl
    · exact HO3.out.thenBelow (by (repeat (first | with_reducible assumption | with_reducible exact Below.refl _ _ | with_reducible refine Below.drew ?_ | with_reducible refine belowDrewN ?_ _ | ((with_reducible refine Below.setCell ?_ ?_ _); rotate_left; focus (first | omega | (simp; done) | (simp; omega))) | ((with_reducible refine Below.alloc ?_ ?_ _); rotate_left; focus (first | omega | (simp; done) | (simp; omega))))))
  · go_wp2_with fail
    refine (l01Int_lit _ _ pb a cap l _ HC1.out ?size (by decide) (by decide) ?texts).mono ?_
    case size => rfl
    case texts => exact Nums.of (by rfl)
    rintro e w2 ⟨x2, rfl, hx2, hc2, ho2⟩
    have hz2 := ho2.size
    have HZ2 := Lib.hid (HZ1.out.only ho2 (.inr (by omega)))
    have HC2 := Lib.hid hc2; clear hc2; have HO2 := Lib.hid ho2; clear ho2
    go_wp2_with fail
    refine (leafNum _ _ hx2).mono ?_
    rintro e w3 ⟨k3, n3, s3, a3, c3, m3, rfl, hi3, hm3, hw3, hb3⟩
    obtain ⟨r0, r1, r2, r3, g0, g1, g2, g3⟩ := HZ2.out.below hb3 (by omega)
    have hc3 := HC2.out.below hb3
    have ho3 := (HOO.out.trans HO2.out).thenBelow (hb3.mono (by omega))
    have HI3 := Lib.hid hi3; clear hi3; have HW3 := Lib.hid hw3; clear hw3; have HM3 := Lib.hid hm3; clear hm3; have HC3 := Lib.hid hc3; clear hc3; have HO3 := Lib.hid ho3; clear ho3; have HB3 := Lib.hid hb3; clear hb3
    go_wp2_with fail
    refine bodyPost_ret (v := .agg #[.int .i64 k3, .int .i64 n3, .string s3, .slice a3 m3.length c3]) (by simp [results, Try.results114, go_sem, r0, r1, r2, r3]) rfl ?_
    refine ⟨k3, n3, s3, [], a3, c3, m3, rfl, HI3.out, ?_, HW3.out, by simp [Dat.countL]; exact nB_pos _, ?_, ?_⟩
    · (exact M.Mine.mono (M.Mine.keep HM3.out (fun b hb1 hb2 => by (try simp at hb1); simp (disch := (first | omega | (simp; omega))) only [heapSet, heapNew, heapDrew, heapDrewN])) (by first | omega | (simp; done) | (simp; omega)))
    · exact HC3.out.belowB (B := w.heap.size) (by (repeat (first | with_reducible assumption | with_reducible exact Below.refl _ _ | with_reducible refine Below.drew ?_ | with_reducible refine belowDrewN ?_ _ | ((with_reducible refine Below.setCell ?_ ?_ _); rotate_left; focus (first | omega | (simp; done) | (simp; omega))) | ((with_reducible refine Below.alloc ?_ ?_ _); rotate_left; focus (first | omega | (simp; done) | (simp; omega)))))) hpl
    · exact HO3.out.thenBelow (by (repeat (first | with_reducible assumption | with_reducible exact Below.refl _ _ | with_reducible refine Below.drew ?_ | with_reducible refine belowDrewN ?_ _ | ((with_reducible refine Below.setCell ?_ ?_ _); rotate_left; focus (first | omega | (simp; done) | (simp; omega))) | ((with_reducible refine Below.alloc ?_ ?_ _); rotate_left; focus (first | omega | (simp; done) | (simp; omega))))))
theorem wfL_snoc : ∀ {ds : List Dat} {d : Dat}, Dat.wfL ds → d.wf → Dat.wfL (ds ++ [d])
  | [], _, _, h => ⟨h, trivial⟩
  | _ :: _, _, h, k => ⟨h.1, wfL_snoc h.2 k⟩
set_option maxHeartbeats 4000000 in
theorem l1Draw_deep (d : Nat) (hd0 : 0 < d) (hd9 : d ≤ 100) (ih : DrD d) : DrD (d + 1) := by
  intro pb a cap l w hc
  have hd1 : ¬ ((d + 1 : Nat) : Int) ≤ 1 := by omega
  have hd2 : ((d + 1 : Nat) : Int) - 1 = (d : Int) := by omega
  have IH := Lib.hid ih; clear ih
  have hpl := hc.lt
  have HC := Lib.hid hc; clear hc
  go_enter Try.func114, Try.ntmps114
  go_wp2_with fail
  refine (l01Below_calls 9 pb a cap l _ (HC.out.below (by (repeat (first | with_reducible assumption | with_reducible exact Below.refl _ _ | with_reducible refine Below.drew ?_ | with_reducible refine belowDrewN ?_ _ | ((with_reducible refine Below.setCell ?_ ?_ _); rotate_left; focus (first | omega | (simp; done) | (simp; omega))) | ((with_reducible refine Below.alloc ?_ ?_ _); rotate_left; focus (first | omega | (simp; done) | (simp; omega))))))) (by decide) (by decide)).mono ?_
  rintro e w1 ⟨x, rfl, hx0, hx1, hc1, ho1⟩
  have hz1 := ho1.size
  simp only [World.size_alloc] at hz1
  have hzz := (Zero.new w).only ho1 (.inr (by omega))
  have hoo : OnlyIn pb (pb + 1) w w1 := ((OnlyIn.refl _ _ _).new _).trans ho1
  have HZ1 := Lib.hid hzz; clear hzz
  have HC1 := Lib.hid hc1; clear hc1; have HO1 := Lib.hid ho1; clear ho1; have HOO := Lib.hid hoo; clear hoo
  by_cases hx5 : x ≤ 5
  · have hx : x = 0 ∨ x = 1 ∨ x = 2 ∨ x = 3 ∨ x = 4 ∨ x = 5 := by omega
    clear hx0 hx1 hx5
    rcases hx with rfl | rfl | rfl | rfl | rfl | rfl
    · go_wp2_with fail
      refine (l01Pick_lit _ _ pb a cap l _ HC1.out ?size (by decide) (by decide) ?texts).mono ?_
      case size => rfl
      case texts => exact Texts.of (by rfl)
      rintro e w2 ⟨x2, rfl, hx2, hc2, ho2⟩
      have hz2 := ho2.size
      have HZ2 := Lib.hid (HZ1.out.only ho2 (.inr (by omega)))
      have HC2 := Lib.hid hc2; clear hc2; have HO2 := Lib.hid ho2; clear ho2
      go_wp2_with fail
      refine (leafSym _ _ hx2).mono ?_
      rintro e w3 ⟨k3, n3, s3, a3, c3, m3, rfl, hi3, hm3, hw3, hb3⟩
      obtain ⟨r0, r1, r2, r3, g0, g1, g2, g3⟩ := HZ2.out.below hb3 (by omega)
      have hc3 := HC2.out.below hb3
      have ho3 := (HOO.out.trans HO2.out).thenBelow (hb3.mono (by omega))
      have HI3 := Lib.hid hi3; clear hi3; have HW3 := Lib.hid hw3; clear hw3; have HM3 := Lib.hid hm3; clear hm3; have HC3 := Lib.hid hc3; clear hc3; have HO3 := Lib.hid ho3; clear ho3; have HB3 := Lib.hid hb3; clear hb3
      go_wp2_with fail
      refine bodyPost_ret (v := .agg #[.int .i64 k3, .int .i64 n3, .string s3, .slice a3 m3.length c3]) (by simp [results, Try.results114, go_sem, r0, r1, r2, r3]) rfl ?_
      refine ⟨k3, n3, s3, [], a3, c3, m3, rfl, HI3.out, ?_, HW3.out, by simp [Dat.countL]; exact nB_pos _, ?_, ?_⟩
      · (exact M.Mine.mono (M.Mine.keep HM3.out (fun b hb1 hb2 => by (try simp at hb1); simp (disch := (first | omega | (simp; omega))) only [heapSet, heapNew, heapDrew, heapDrewN])) (by first | omega | (simp; done) | (simp; omega)))
      · exact HC3.out.belowB (B := w.heap.size) (by (repeat (first | with_reducible assumption | with_reducible exact Below.refl _ _ | with_reducible refine Below.drew ?_ | with_reducible refine belowDrewN ?_ _ | ((with_reducible refine Below.setCell ?_ ?_ _); rotate_left; focus (first | omega | (simp; done) | (simp; omega))) | ((with_reducible refine Below.alloc ?_ ?_ _); rotate_left; focus (first | omega | (simp; done) | (simp; omega)))))) hpl
      · exact HO3.out.thenBelow (by (repeat (first | with_reducible assumption | with_reducible exact Below.refl _ _ | with_reducible refine Below.drew ?_ | with_reducible refine belowDrewN ?_ _ | ((with_reducible refine Below.setCell ?_ ?_ _); rotate_left; focus (first | omega | (simp; done) | (simp; omega))) | ((with_reducible refine Below.alloc ?_ ?_ _); rotate_left; focus (first | omega | (simp; done) | (simp; omega))))))
    · go_wp2_with fail
      refine (l01Pick_lit _ _ pb a cap l _ HC1.out ?size (by decide) (by decide) ?texts).mono ?_
      case size => rfl
      case texts => exact Texts.of (by rfl)
      rintro e w2 ⟨x2, rfl, hx2, hc2, ho2⟩
      have hz2 := ho2.size
      have HZ2 := Lib.hid (HZ1.out.only ho2 (.inr (by omega)))
      have HC2 := Lib.hid hc2; clear hc2; have HO2 := Lib.hid ho2; clear ho2
      go_wp2_with fail
      refine (leafSym _ _ hx2).mono ?_
      rintro e w3 ⟨k3, n3, s3, a3, c3, m3, rfl, hi3, hm3, hw3, hb3⟩
      obtain ⟨r0, r1, r2, r3, g0, g1, g2, g3⟩ := HZ2.out.below hb3 (by omega)
      have hc3 := HC2.out.below hb3
      have ho3 := (HOO.out.trans HO2.out).thenBelow (hb3.mono (by omega))
      have HI3 := Lib.hid hi3; clear hi3; have HW3 := Lib.hid hw3; clear hw3; have HM3 := Lib.hid hm3; clear hm3; have HC3 := Lib.hid hc3; clear hc3; have HO3 := Lib.hid ho3; clear ho3; have HB3 := Lib.hid hb3; clear hb3
      go_wp2_with fail
      refine bodyPost_ret (v := .agg #[.int .i64 k3, .int .i64 n3, .string s3, .slice a3 m3.length c3]) (by simp [results, Try.results114, go_sem, r0, r1, r2, r3]) rfl ?_
      refine ⟨k3, n3, s3, [], a3, c3, m3, rfl, HI3.out, ?_, HW3.out, by simp [Dat.countL]; exact nB_pos _, ?_, ?_⟩
      · (exact M.Mine.mono (M.Mine.keep HM3.out (fun b hb1 hb2 => by (try simp at hb1); simp (disch := (first | omega | (simp; omega))) only [heapSet, heapNew, heapDrew, heapDrewN])) (by first | omega | (simp; done) | (simp; omega)))
      · exact HC3.out.belowB (B := w.heap.size) (by (repeat (first | with_reducible assumption | with_reducible exact Below.refl _ _ | with_reducible refine Below.drew ?_ | with_reducible refine belowDrewN ?_ _ | ((with_reducible refine Below.setCell ?_ ?_ _); rotate_left; focus (first | omega | (simp; done) | (simp; omega))) | ((with_reducible refine Below.alloc ?_ ?_ _); rotate_left; focus (first | omega | (simp; done) | (simp; omega)))))) hpl
      · exact HO3.out.thenBelow (by (repeat (first | with_reducible assumption | with_reducible exact Below.refl _ _ | with_reducible refine Below.drew ?_ | with_reducible refine belowDrewN ?_ _ | ((with_reducible refine Below.setCell ?_ ?_ _); rotate_left; focus (first | omega | (simp; done) | (simp; omega))) | ((with_reducible refine Below.alloc ?_ ?_ _); rotate_left; focus (first | omega | (simp; done) | (simp; omega))))))
    · go_wp2_with fail
      refine (l01Int_lit _ _ pb a cap l _ HC1.out ?size (by decide) (by decide) ?texts).mono ?_
      case size => rfl
      case texts => exact Nums.of (by rfl)
      rintro e w2 ⟨x2, rfl, hx2, hc2, ho2⟩
      have hz2 := ho2.size
      have HZ2 := Lib.hid (HZ1.out.only ho2 (.inr (by omega)))
      have HC2 := Lib.hid hc2; clear hc2; have HO2 := Lib.hid ho2; clear ho2
      go_wp2_with fail
      refine (leafNum _ _ hx2).mono ?_
      rintro e w3 ⟨k3, n3, s3, a3, c3, m3, rfl, hi3, hm3, hw3, hb3⟩
      obtain ⟨r0, r1, r2, r3, g0, g1, g2, g3⟩ := HZ2.out.below hb3 (by omega)
      have hc3 := HC2.out.below hb3
      have ho3 := (HOO.out.trans HO2.out).thenBelow (hb3.mono (by omega))
      have HI3 := Lib.hid hi3; clear hi3; have HW3 := Lib.hid hw3; clear hw3; have HM3 := Lib.hid hm3; clear hm3; have HC3 := Lib.hid hc3; clear hc3; have HO3 := Lib.hid ho3; clear ho3; have HB3 := Lib.hid hb3; clear hb3
      go_wp2_with fail
      refine bodyPost_ret (v := .agg #[.int .i64 k3, .int .i64 n3, .string s3, .slice a3 m3.length c3]) (by simp [results, Try.results114, go_sem, r0, r1, r2, r3]) rfl ?_
      refine ⟨k3, n3, s3, [], a3, c3, m3, rfl, HI3.out, ?_, HW3.out, by simp [Dat.countL]; exact nB_pos _, ?_, ?_⟩
      · (exact M.Mine.mono (M.Mine.keep HM3.out (fun b hb1 hb2 => by (try simp at hb1); simp (disch := (first | omega | (simp; omega))) only [heapSet, heapNew, heapDrew, heapDrewN])) (by first | omega | (simp; done) | (simp; omega)))
      · exact HC3.out.belowB (B := w.heap.size) (by (repeat (first | with_reducible assumption | with_reducible exact Below.refl _ _ | with_reducible refine Below.drew ?_ | with_reducible refine belowDrewN ?_ _ | ((with_reducible refine Below.setCell ?_ ?_ _); rotate_left; focus (first | omega | (simp; done) | (simp; omega))) | ((with_reducible refine Below.alloc ?_ ?_ _); rotate_left; focus (first | omega | (simp; done) | (simp; omega)))))) hpl
      · exact HO3.out.thenBelow (by (repeat (first | with_reducible assumption | with_reducible exact Below.refl _ _ | with_reducible refine Below.drew ?_ | with_reducible refine belowDrewN ?_ _ | ((with_reducible refine Below.setCell ?_ ?_ _); rotate_left; focus (first | omega | (simp; done) | (simp; omega))) | ((with_reducible refine Below.alloc ?_ ?_ _); rotate_left; focus (first | omega | (simp; done) | (simp; omega))))))
    · go_wp2_with fail
      refine (l01Int_lit _ _ pb a cap l _ HC1.out ?size (by decide) (by decide) ?texts).mono ?_
      case size => rfl
      case texts => exact Nums.of (by rfl)
      rintro e w2 ⟨x2, rfl, hx2, hc2, ho2⟩
      have hz2 := ho2.size
      have HZ2 := Lib.hid (HZ1.out.only ho2 (.inr (by omega)))
      have HC2 := Lib.hid hc2; clear hc2; have HO2 := Lib.hid ho2; clear ho2
      go_wp2_with fail
      refine (leafNum _ _ hx2).mono ?_
      rintro e w3 ⟨k3, n3, s3, a3, c3, m3, rfl, hi3, hm3, hw3, hb3⟩
      obtain ⟨r0, r1, r2, r3, g0, g1, g2, g3⟩ := HZ2.out.below hb3 (by omega)
      have hc3 := HC2.out.below hb3
      have ho3 := (HOO.out.trans HO2.out).thenBelow (hb3.mono (by omega))
      have HI3 := Lib.hid hi3; clear hi3; have HW3 := Lib.hid hw3; clear hw3; have HM3 := Lib.hid hm3; clear hm3; have HC3 := Lib.hid hc3; clear hc3; have HO3 := Lib.hid ho3; clear ho3; have HB3 := Lib.hid hb3; clear hb3
      go_wp2_with fail
      refine bodyPost_ret (v := .agg #[.int .i64 k3, .int .i64 n3, .string s3, .slice a3 m3.length c3]) (by simp [results, Try.results114, go_sem, r0, r1, r2, r3]) rfl ?_
      refine ⟨k3, n3, s3, [], a3, c3, m3, rfl, HI3.out, ?_, HW3.out, by simp [Dat.countL]; exact nB_pos _, ?_, ?_⟩
      · (exact M.Mine.mono (M.Mine.keep HM3.out (fun b hb1 hb2 => by (try simp at hb1); simp (disch := (first | omega | (simp; omega))) only [heapSet, heapNew, heapDrew, heapDrewN])) (by first | omega | (simp; done) | (simp; omega)))
      · exact HC3.out.belowB (B := w.heap.size) (by (repeat (first | with_reducible assumption | with_reducible exact Below.refl _ _ | with_reducible refine Below.drew ?_ | with_reducible refine belowDrewN ?_ _ | ((with_reducible refine Below.setCell ?_ ?_ _); rotate_left; focus (first | omega | (simp; done) | (simp; omega))) | ((with_reducible refine Below.alloc ?_ ?_ _); rotate_left; focus (first | omega | (simp; done) | (simp; omega)))))) hpl
      · exact HO3.out.thenBelow (by (repeat (first | with_reducible assumption | with_reducible exact Below.refl _ _ | with_reducible refine Below.drew ?_ | with_reducible refine belowDrewN ?_ _ | ((with_reducible refine Below.setCell ?_ ?_ _); rotate_left; focus (first | omega | (simp; done) | (simp; omega))) | ((with_reducible refine Below.alloc ?_ ?_ _); rotate_left; focus (first | omega | (simp; done) | (simp; omega))))))
    · go_wp2_with fail
      refine (l01Once_calls _ pb a cap l _ HC1.out (by decide) (by decide)).mono ?_
      rintro e w2 ⟨x2, rfl, hc2, ho2⟩
      have hz2 := ho2.size
      have HZ2 := Lib.hid (HZ1.out.only ho2 (.inr (by omega)))
      have HC2 := Lib.hid hc2; clear hc2; have HO2 := Lib.hid ho2; clear ho2
      go_wp2_with fail
      refine (leafBool _ _).mono ?_
      rintro e w3 ⟨k3, n3, s3, a3, c3, m3, rfl, hi3, hm3, hw3, hb3⟩
      obtain ⟨r0, r1, r2, r3, g0, g1, g2, g3⟩ := HZ2.out.below hb3 (by omega)
      have hc3 := HC2.out.below hb3
      have ho3 := (HOO.out.trans HO2.out).thenBelow (hb3.mono (by omega))
      have HI3 := Lib.hid hi3; clear hi3; have HW3 := Lib.hid hw3; clear hw3; have HM3 := Lib.hid hm3; clear hm3; have HC3 := Lib.hid hc3; clear hc3; have HO3 := Lib.hid ho3; clear ho3; have HB3 := Lib.hid hb3; clear hb3
      go_wp2_with fail
      refine bodyPost_ret (v := .agg #[.int .i64 k3, .int .i64 n3, .string s3, .slice a3 m3.length c3]) (by simp [results, Try.results114, go_sem, r0, r1, r2, r3]) rfl ?_
      refine ⟨k3, n3, s3, [], a3, c3, m3, rfl, HI3.out, ?_, HW3.out, by simp [Dat.countL]; exact nB_pos _, ?_, ?_⟩
      · (exact M.Mine.mono (M.Mine.keep HM3.out (fun b hb1 hb2 => by (try simp at hb1); simp (disch := (first | omega | (simp; omega))) only [heapSet, heapNew, heapDrew, heapDrewN])) (by first | omega | (simp; done) | (simp; omega)))
      · exact HC3.out.belowB (B := w.heap.size) (by (repeat (first | with_reducible assumption | with_reducible exact Below.refl _ _ | with_reducible refine Below.drew ?_ | with_reducible refine belowDrewN ?_ _ | ((with_reducible refine Below.setCell ?_ ?_ _); rotate_left; focus (first | omega | (simp; done) | (simp; omega))) | ((with_reducible refine Below.alloc ?_ ?_ _); rotate_left; focus (first | omega | (simp; done) | (simp; omega)))))) hpl
      · exact HO3.out.thenBelow (by (repeat (first | with_reducible assumption | with_reducible exact Below.refl _ _ | with_reducible refine Below.drew ?_ | with_reducible refine belowDrewN ?_ _ | ((with_reducible refine Below.setCell ?_ ?_ _); rotate_left; focus (first | omega | (simp; done) | (simp; omega))) | ((with_reducible refine Below.alloc ?_ ?_ _); rotate_left; focus (first | omega | (simp; done) | (simp; omega))))))
    · go_wp2_with fail
      refine (l01Pick_lit _ _ pb a cap l _ HC1.out ?size (by decide) (by decide) ?texts).mono ?_
      case size => rfl
      case texts => exact Texts.of (by rfl)
      rintro e w2 ⟨x2, rfl, hx2, hc2, ho2⟩
      have hz2 := ho2.size
      have HZ2 := Lib.hid (HZ1.out.only ho2 (.inr (by omega)))
      have HC2 := Lib.hid hc2; clear hc2; have HO2 := Lib.hid ho2; clear ho2
      go_wp2_with fail
      refine (leafStr _ _ hx2).mono ?_
      rintro e w3 ⟨k3, n3, s3, a3, c3, m3, rfl, hi3, hm3, hw3, hb3⟩
      obtain ⟨r0, r1, r2, r3, g0, g1, g2, g3⟩ := HZ2.out.below hb3 (by omega)
      have hc3 := HC2.out.below hb3
      have ho3 := (HOO.out.trans HO2.out).thenBelow (hb3.mono (by omega))
      have HI3 := Lib.hid hi3; clear hi3; have HW3 := Lib.hid hw3; clear hw3; have HM3 := Lib.hid hm3; clear hm3; have HC3 := Lib.hid hc3; clear hc3; have HO3 := Lib.hid ho3; clear ho3; have HB3 := Lib.hid hb3; clear hb3
      go_wp2_with fail
      refine bodyPost_ret (v := .agg #[.int .i64 k3, .int .i64 n3, .string s3, .slice a3 m3.length c3]) (by simp [results, Try.results114, go_sem, r0, r1, r2, r3]) rfl ?_
      refine ⟨k3, n3, s3, [], a3, c3, m3, rfl, HI3.out, ?_, HW3.out, by simp [Dat.countL]; exact nB_pos _, ?_, ?_⟩
      · (exact M.Mine.mono (M.Mine.keep HM3.out (fun b hb1 hb2 => by (try simp at hb1); simp (disch := (first | omega | (simp; omega))) only [heapSet, heapNew, heapDrew, heapDrewN])) (by first | omega | (simp; done) | (simp; omega)))
      · exact HC3.out.belowB (B := w.heap.size) (by (repeat (first | with_reducible assumption | with_reducible exact Below.refl _ _ | with_reducible refine Below.drew ?_ | with_reducible refine belowDrewN ?_ _ | ((with_reducible refine Below.setCell ?_ ?_ _); rotate_left; focus (first | omega | (simp; done) | (simp; omega))) | ((with_reducible refine Below.alloc ?_ ?_ _); rotate_left; focus (first | omega | (simp; done) | (simp; omega)))))) hpl
      · exact HO3.out.thenBelow (by (repeat (first | with_reducible assumption | with_reducible exact Below.refl _ _ | with_reducible refine Below.drew ?_ | with_reducible refine belowDrewN ?_ _ | ((with_reducible refine Below.setCell ?_ ?_ _); rotate_left; focus (first | omega | (simp; done) | (simp; omega))) | ((with_reducible refine Below.alloc ?_ ?_ _); rotate_left; focus (first | omega | (simp; done) | (simp; omega))))))
  · have y0 : (x == 0) = false := by simp; omega
    have y1 : (x == 1) = false := by simp; omega
    have y2 : (x == 2) = false := by simp; omega
    have y3 : (x == 3) = false := by simp; omega
    have y4 : (x == 4) = false := by simp; omega
    have y5 : (x == 5) = false := by simp; omega
    have HX5 := Lib.hid hx5; clear hx5; have HX0 := Lib.hid hx0; clear hx0; have HX1 := Lib.hid hx1; clear hx1
    go_wp2_with fail
    refine (l01Below_calls 5 pb a cap l _ (HC1.out.below (by (repeat (first | with_reducible assumption | with_reducible exact Below.refl _ _ | with_reducible refine Below.drew ?_ | with_reducible refine belowDrewN ?_ _ | ((with_reducible refine Below.setCell ?_ ?_ _); rotate_left; focus (first | omega | (simp; done) | (simp; omega))) | ((with_reducible refine Below.alloc ?_ ?_ _); rotate_left; focus (first | omega | (simp; done) | (simp; omega))))))) (by decide) (by decide)).mono ?_
    rintro e w2 ⟨y, rfl, hy0, hy1, hc2, ho2⟩
    obtain ⟨n0, rfl⟩ := Int.eq_ofNat_of_zero_le hy0
    have hz2 := ho2.size
    simp only [World.size_alloc] at hz2
    have hn4 : n0 ≤ 4 := by omega
    have ho12 : OnlyIn pb (pb + 1) w1 w2 := ((OnlyIn.refl _ _ _).new _).trans ho2
    have hz0 : Zero w.heap.size w2 := HZ1.out.only ho12 (.inr (by omega))
    have hzB : Zero w1.heap.size w2 := (Zero.new w1).only ho2 (.inr (by omega))
    have hzBs : w2.cell? ⟨w1.heap.size, 0, none⟩ = some (.int .i64 0) ∧ w2.cell? ⟨w1.heap.size, 1, none⟩ = some (.int .i64 0) ∧ w2.cell? ⟨w1.heap.size, 2, none⟩ = some (.string ⟨#[]⟩) ∧ w2.cell? ⟨w1.heap.size, 3, none⟩ = some (.slice none 0 0) ∧ w2.frozen? ⟨w1.heap.size, 3, none⟩ = false := ⟨hzB.c0, hzB.c1, hzB.c2, hzB.c3, hzB.f3⟩
    have ho02 : OnlyIn pb (pb + 1) w w2 := HOO.out.trans ho12
    have hwl : Dat.wfL [] := trivial
    clear hy0 hy1
    have HC2 := Lib.hid hc2; clear hc2; have HO2 := Lib.hid ho2; clear ho2; have HO12 := Lib.hid ho12; clear ho12; have HZ0 := Lib.hid hz0; clear hz0; have HZB := Lib.hid hzB; clear hzB; have HZBS := Lib.hid hzBs; clear hzBs; have HO02 := Lib.hid ho02; clear ho02
    go_wp2_with fail
    go_loopw [7] (fun i wr => ∃ (n : Nat) (a' : Option Addr) (cap' : Nat) (ms' : List M) (ds' : List Dat), i = .int .i64 n ∧ ms'.length + n ≤ 4 ∧ Dat.IsL 31 ds' ms' ∧ (M.sl a' cap' 4 31 ms').Mine wr (w1.heap.size + 1) ∧ Dat.wfL ds' ∧ Dat.countL ds' ≤ ms'.length * nB d ∧
        (wr.cell? ⟨w1.heap.size, 0, none⟩ = some (.int .i64 0) ∧ wr.cell? ⟨w1.heap.size, 1, none⟩ = some (.int .i64 0) ∧ wr.cell? ⟨w1.heap.size, 2, none⟩ = some (.string ⟨#[]⟩) ∧ wr.cell? ⟨w1.heap.size, 3, none⟩ = some (.slice a' ms'.length cap') ∧ wr.frozen? ⟨w1.heap.size, 3, none⟩ = false) ∧
        Zero w.heap.size wr ∧ Cur pb a cap l wr ∧ OnlyIn pb (pb + 1) w wr ∧ w1.heap.size + 1 ≤ wr.heap.size) (fun i _ => (intOf i).toNat)
    case atStart => exact ⟨n0, none, 0, [], [], rfl, by simpa using hn4, by simp [Dat.IsL], M.Mine.nil _ _ _ _ (by decide), trivial, by simp [Dat.countL], HZBS.out, HZ0.out, HC2.out, HO02.out, by omega⟩
    case round =>
      obtain ⟨n, a', cap', ms', ds', rfl, hnm, hi', hm', hwl', hct', ⟨q0, q1, q2, q3, qf⟩, hzr, hcr, hor, hsz⟩ := hrel
      have p3 : w1.heap.size < wr.heap.size := by omega
      have hcap' := hm'.in_.len
      cases n with
      | zero =>
        have hwfin : (Dat.mk 0 0 ⟨#[]⟩ ds').wf := ⟨by unfold I64; omega, by unfold I64; omega, by decide, hwl'⟩
        have hcfin : 1 + Dat.countL ds' ≤ nB (d + 1) := by
          have := Nat.mul_le_mul_right (nB d) (show ms'.length ≤ 4 by omega)
          simp only [nB]; omega
        obtain ⟨r0, r1, r2, r3, g0, g1, g2, g3⟩ := hzr
        have HI' := Lib.hid hi'; clear hi'; have HM' := Lib.hid hm'; clear hm'; have HWL' := Lib.hid hwl'; clear hwl'; have HCT' := Lib.hid hct'; clear hct'; have HCR := Lib.hid hcr; clear hcr; have HOR := Lib.hid hor; clear hor; have HWFIN := Lib.hid hwfin; clear hwfin; have HCFIN := Lib.hid hcfin; clear hcfin; have HNM := Lib.hid hnm; clear hnm
        go_wp2_with fail
        refine bodyPost_ret (v := .agg #[.int .i64 0, .int .i64 0, .string ⟨#[]⟩, .slice a' ms'.length cap']) (by simp [results, Try.results114, go_sem, r0, r1, r2, r3]) rfl ?_
        refine ⟨0, 0, ⟨#[]⟩, ds', a', cap', ms', rfl, HI'.out, ?_, HWFIN.out, HCFIN.out, ?_, ?_⟩
        · (exact M.Mine.mono (M.Mine.keep HM'.out (fun b hb1 hb2 => by (try simp at hb1); simp (disch := (first | omega | (simp; omega))) only [heapSet, heapNew, heapDrew, heapDrewN])) (by first | omega | (simp; done) | (simp; omega)))
        · exact HCR.out.belowB (B := w.heap.size) (by (repeat (first | with_reducible assumption | with_reducible exact Below.refl _ _ | with_reducible refine Below.drew ?_ | with_reducible refine belowDrewN ?_ _ | ((with_reducible refine Below.setCell ?_ ?_ _); rotate_left; focus (first | omega | (simp; done) | (simp; omega))) | ((with_reducible refine Below.alloc ?_ ?_ _); rotate_left; focus (first | omega | (simp; done) | (simp; omega)))))) hpl
        · exact HOR.out.thenBelow (by (repeat (first | with_reducible assumption | with_reducible exact Below.refl _ _ | with_reducible refine Below.drew ?_ | with_reducible refine belowDrewN ?_ _ | ((with_reducible refine Below.setCell ?_ ?_ _); rotate_left; focus (first | omega | (simp; done) | (simp; omega))) | ((with_reducible refine Below.alloc ?_ ?_ _); rotate_left; focus (first | omega | (simp; done) | (simp; omega))))))
      | succ n =>
        have hpos : 0 < ((n + 1 : Nat) : Int) := by omega
        have hn9 : n ≤ 3 := by omega
        have hwd : IntKind.i64.wrap (d : Int) = (d : Int) := by rw [IntKind.wrap_i64]; omega
        have HI' := Lib.hid hi'; clear hi'; have HM' := Lib.hid hm'; clear hm'; have HWL' := Lib.hid hwl'; clear hwl'; have HCT' := Lib.hid hct'; clear hct'; have HCR := Lib.hid hcr; clear hcr; have HOR := Lib.hid hor; clear hor; have HZR := Lib.hid hzr; clear hzr; have HNM := Lib.hid hnm; clear hnm
        go_wp2_with fail
        go_region_law (first
          | (go_simp; go_at_call 114; (try simp only [hwd]); refine (IH.out pb a cap l _ (HCR.out.below (by (repeat (first | with_reducible assumption | with_reducible exact Below.refl _ _ | with_reducible refine Below.drew ?_ | with_reducible refine belowDrewN ?_ _ | ((with_reducible refine Below.setCell ?_ ?_ _); rotate_left; focus (first | omega | (simp; done) | (simp; omega))) | ((with_reducible refine Below.alloc ?_ ?_ _); rotate_left; focus (first | omega | (simp; done) | (simp; omega)))))))).mono ?_; rintro e w4 ⟨k4, n4, s4, ds4, a4, cap4, ms4, rfl, hi4, hm4, hw4, hct4, hc4, ho4⟩; have ho4' : OnlyIn pb (pb + 1) wr w4 := (by first | exact ho4 | exact ((OnlyIn.refl _ _ _).drew).trans ho4 | exact ((OnlyIn.refl _ _ _).drewN _).trans ho4); have hz4 := ho4'.size; have p3c : w1.heap.size < w4.heap.size := (by omega); have q3c : w4.cell? ⟨w1.heap.size, 3, none⟩ = some (.slice a' ms'.length cap') := ((World.cell?_of_block (ho4'.block w1.heap.size p3 (.inr (by omega)))).trans q3); have qfc : w4.frozen? ⟨w1.heap.size, 3, none⟩ = false := ((World.frozen?_of_block (ho4'.block w1.heap.size p3 (.inr (by omega)))).trans qf))
          | (refine step_push3 (wr := wr) rfl _ _ 29 rfl 31 _ 4 56 Try.underlying29 infoDat rfl (by decide) (w1.heap.size + 1) a' cap' ms' rfl HM'.out hsz hz4 (fun b h1 h2 => ho4'.block b h2 (.inr (by omega))) _ (.ag [.c (.int .i64 k4), .c (.int .i64 n4), .c (.string s4), .sl a4 cap4 4 31 ms4]) rfl rfl _ (Dat.mine hm4) (by first | exact Nat.le_refl _ | (simp; done)) rfl (by have := HNM.out; unfold maxLen; omega) (by have := HNM.out; omega) ?_; intro a5 cap5 w5 hm5 hb5 hz5 hfr5; have p5c : w1.heap.size < w5.heap.size := (by omega); have q3' : w5.cell? ⟨w1.heap.size, 3, none⟩ = some (.slice a' ms'.length cap') := ((World.cell?_of_block (hb5.block w1.heap.size (by omega))).trans q3c); have qf' : w5.frozen? ⟨w1.heap.size, 3, none⟩ = false := ((World.frozen?_of_block (hb5.block w1.heap.size (by omega))).trans qfc)))
        all_goals
          have kB := (hb5.block w1.heap.size (by omega)).trans (ho4'.block w1.heap.size p3 (.inr (by omega)))
          have q0' : w5.cell? ⟨w1.heap.size, 0, none⟩ = some (.int .i64 0) := (World.cell?_of_block kB).trans q0
          have q1' : w5.cell? ⟨w1.heap.size, 1, none⟩ = some (.int .i64 0) := (World.cell?_of_block kB).trans q1
          have q2' : w5.cell? ⟨w1.heap.size, 2, none⟩ = some (.string ⟨#[]⟩) := (World.cell?_of_block kB).trans q2
          have hzr5 := HZR.out.of ((hb5.block w.heap.size (by omega)).trans (ho4'.block w.heap.size (by omega) (.inr (by omega))))
          have hc5 := hc4.belowB hb5 (by omega)
          have ho5 := (HOR.out.trans ho4').thenBelow (hb5.mono (by omega))
          have hi5 : Dat.IsL 31 (ds' ++ [.mk k4 n4 s4 ds4]) (ms' ++ [.ag [.c (.int .i64 k4), .c (.int .i64 n4), .c (.string s4), .sl a4 cap4 4 31 ms4]]) := HI'.out.snoc ⟨_, _, _, rfl, hi4⟩
          have hlen5 : (ms' ++ [M.ag [.c (.int .i64 k4), .c (.int .i64 n4), .c (.string s4), .sl a4 cap4 4 31 ms4]]).length = ms'.length + 1 := by simp
          have hct5 : Dat.countL (ds' ++ [.mk k4 n4 s4 ds4]) ≤ (ms'.length + 1) * nB d := by
            have := HCT'.out
            rw [Dat.countL_append, Nat.succ_mul]; simp only [Dat.countL, Dat.count]; omega
          have hwl5 : Dat.wfL (ds' ++ [.mk k4 n4 s4 ds4]) := wfL_snoc HWL'.out hw4
          have HM5 := Lib.hid hm5; clear hm5; have HI5 := Lib.hid hi5; clear hi5; have HCT5 := Lib.hid hct5; clear hct5; have HWL5 := Lib.hid hwl5; clear hwl5; have HZR5 := Lib.hid hzr5; clear hzr5; have HC5 := Lib.hid hc5; clear hc5; have HO5 := Lib.hid ho5; clear ho5; have HI4 := Lib.hid hi4; clear hi4; have HM4 := Lib.hid hm4; clear hm4; have HW4 := Lib.hid hw4; clear hw4; have HCT4 := Lib.hid hct4; clear hct4; have HC4 := Lib.hid hc4; clear hc4; have HO4 := Lib.hid ho4; clear ho4; have HO4' := Lib.hid ho4'; clear ho4'; have HFR5 := Lib.hid hfr5; clear hfr5
          go_wp2_with fail
          go_roundw
          case rel =>
            refine ⟨n, a5, cap5, ms' ++ [.ag [.c (.int .i64 k4), .c (.int .i64 n4), .c (.string s4), .sl a4 cap4 4 31 ms4]], ds' ++ [.mk k4 n4 s4 ds4], by go_num, by have := HNM.out; simp; omega, HI5.out, ?_, HWL5.out, by rw [hlen5]; exact HCT5.out, ?_, ?_, ?_, ?_, ?_⟩
            · exact M.Mine.keep HM5.out (fun b hb1 hb2 => by simp (disch := (first | omega | (simp; omega))) only [heapSet])
            · simp [go_sem, q0', q1', q2', q3', qf']
            · exact HZR5.out.of (by simp (disch := (first | omega | (simp; omega))) only [heapSet])
            · exact HC5.out.belowB (B := w.heap.size) (by (repeat (first | with_reducible assumption | with_reducible exact Below.refl _ _ | with_reducible refine Below.drew ?_ | with_reducible refine belowDrewN ?_ _ | ((with_reducible refine Below.setCell ?_ ?_ _); rotate_left; focus (first | omega | (simp; done) | (simp; omega))) | ((with_reducible refine Below.alloc ?_ ?_ _); rotate_left; focus (first | omega | (simp; done) | (simp; omega)))))) hpl
            · exact HO5.out.thenBelow (by (repeat (first | with_reducible assumption | with_reducible exact Below.refl _ _ | with_reducible refine Below.drew ?_ | with_reducible refine belowDrewN ?_ _ | ((with_reducible refine Below.setCell ?_ ?_ _); rotate_left; focus (first | omega | (simp; done) | (simp; omega))) | ((with_reducible refine Below.alloc ?_ ?_ _); rotate_left; focus (first | omega | (simp; done) | (simp; omega))))))
            · simp; omega
          case measure => first | (simp [intOf]; done) | (simp [intOf]; omega)
theorem l1Draw_calls : ∀ d, d ≤ 100 → DrD d
  | 0, _ => l1Draw_leaf 0 (by decide)
  | 1, _ => l1Draw_leaf 1 (by decide)
  | d + 2, h => l1Draw_deep (d + 1) (by omega) (by omega) (l1Draw_calls (d + 1) (by omega))
end Go.Proofs.Ytoflfamfhpijcaa
