/-
  Walks: data drawn, not valid sometimes. No condition.
-/
import Derived.Test.YtoflfamfhpijcaaQ7
import Derived.Test.YtoflfamfhpijcaaBox
import Derived.Test.YtoflfamfhpijcaaPush
set_option linter.unusedVariables false
set_option linter.unusedSimpArgs false
set_option maxRecDepth 100000
namespace Go.Proofs.Ytoflfamfhpijcaa
open Go.RowKit

theorem countL_snocD (ds : List Dat) (d : Dat) : Dat.countL (ds ++ [d]) = Dat.countL ds + d.count := by
  induction ds with
  | nil => simp [Dat.countL]
  | cons e r ih => simp only [List.cons_append, Dat.countL, ih]; omega
theorem DBox.set0 {b : Nat} {k n : Int} {s : ByteArray} {v : Value} {w : World} (h : DBox b k n s v w) (u : Int) : DBox b u n s v (w.setCell ⟨b, 0, none⟩ (.int .i64 u)) :=
  ⟨by rw [cell?_setCell_eq, h.c0]; rfl, (cellSet_ne _ (by decide)).trans h.c1, (cellSet_ne _ (by decide)).trans h.c2, (cellSet_ne _ (by decide)).trans h.c3,
   (frozenSet _).trans h.f0, (frozenSet _).trans h.f1, (frozenSet _).trans h.f2, (frozenSet _).trans h.f3⟩
theorem DBox.set1 {b : Nat} {k n : Int} {s : ByteArray} {v : Value} {w : World} (h : DBox b k n s v w) (u : Int) : DBox b k u s v (w.setCell ⟨b, 1, none⟩ (.int .i64 u)) :=
  ⟨(cellSet_ne _ (by decide)).trans h.c0, by rw [cell?_setCell_eq, h.c1]; rfl, (cellSet_ne _ (by decide)).trans h.c2, (cellSet_ne _ (by decide)).trans h.c3,
   (frozenSet _).trans h.f0, (frozenSet _).trans h.f1, (frozenSet _).trans h.f2, (frozenSet _).trans h.f3⟩
theorem MineL_one {lo : Nat} {w : World} {a : Option Addr} {cap : Nat} {e : TypeId} {ms : List M} (h : (M.sl a cap 4 e ms).Mine w lo) (k n : Int) (s : ByteArray) : M.MineL w lo [.ag [.c (.int .i64 k), .c (.int .i64 n), .c (.string s), .sl a cap 4 e ms]] :=
  ⟨⟨⟨rfl, rfl, rfl, h.own, trivial⟩, trivial⟩, by simpa [M.blocks, M.blocksL] using h.dup⟩
set_option maxHeartbeats 1000000 in
theorem l1Any_calls (pb : Nat) (a : Option Addr) (cap : Nat) (l : List Int) (w : World) (hc : Cur pb a cap l w) :
    Calls Try.prog 61 #[.pointer (some ⟨pb, 0, none⟩)] w (DrawnD 400 pb a cap l w) := by
  have hpl := hc.lt
  have HC := Lib.hid hc; clear hc
  go_enter Try.func61, Try.ntmps61
  go_wp2_with fail
  refine (l1Draw_calls 4 (by decide) pb a cap l _ (HC.out.below (by (repeat (first | with_reducible assumption | with_reducible exact Below.refl _ _ | with_reducible refine Below.drew ?_ | with_reducible refine belowDrewN ?_ _ | ((with_reducible refine Below.setCell ?_ ?_ _); rotate_left; focus (first | omega | (simp; done) | (simp; omega))) | ((with_reducible refine Below.alloc ?_ ?_ _); rotate_left; focus (first | omega | (simp; done) | (simp; omega)))))))).mono ?_
  rintro e w1 ⟨k1, n1, s1, ds1, a1, cap1, ms1, rfl, hi1, hm1, hw1, hct1, hc1, ho1⟩
  have hz1 := ho1.size
  simp only [World.size_alloc] at hz1
  have hzz := (Zero.new w).only ho1 (.inr (by omega))
  have hoo : OnlyIn pb (pb + 1) w w1 := ((OnlyIn.refl _ _ _).new _).trans ho1
  have HC1 := Lib.hid hc1; clear hc1; have HO1 := Lib.hid ho1; clear ho1; have HOO := Lib.hid hoo; clear hoo; have HI1 := Lib.hid hi1; clear hi1; have HM1 := Lib.hid hm1; clear hm1; have HW1 := Lib.hid hw1; clear hw1; have HCT1 := Lib.hid hct1; clear hct1; have HZZ := Lib.hid hzz; clear hzz
  go_wp2_with fail
  refine (l01Below_calls 12 pb a cap l _ (HC1.out.below (by (repeat (first | with_reducible assumption | with_reducible exact Below.refl _ _ | with_reducible refine Below.drew ?_ | with_reducible refine belowDrewN ?_ _ | ((with_reducible refine Below.setCell ?_ ?_ _); rotate_left; focus (first | omega | (simp; done) | (simp; omega))) | ((with_reducible refine Below.alloc ?_ ?_ _); rotate_left; focus (first | omega | (simp; done) | (simp; omega))))))) (by decide) (by decide)).mono ?_
  rintro e w2 ⟨x, rfl, hx0, hx1, hc2, ho2⟩
  have hz2 := ho2.size
  simp only [World.size_alloc] at hz2
  have hbx : DBox w1.heap.size k1 n1 s1 (.slice a1 ms1.length cap1) w2 := (DBox.new _ _ _ _ w1).only ho2 (.inr (by omega))
  have ho12 : OnlyIn pb (pb + 1) w1 w2 := ((OnlyIn.refl _ _ _).new _).trans ho2
  have hz0 : Zero w.heap.size w2 := HZZ.out.only ho12 (.inr (by omega))
  have hm2 : (M.sl a1 cap1 4 31 ms1).Mine w2 (w.heap.size + 1) := (HM1.out.mono (by simp)).keep (fun b h1 h2 => ho12.block b h2 (.inr (by omega)))
  have ho02 := HOO.out.trans ho12
  have hlt := HM1.out.lt_size
  have HC2 := Lib.hid hc2; clear hc2; have HO2 := Lib.hid ho2; clear ho2; have HO12 := Lib.hid ho12; clear ho12; have HM2 := Lib.hid hm2; clear hm2; have HO02 := Lib.hid ho02; clear ho02; have HBX := Lib.hid hbx; clear hbx; have HZ0 := Lib.hid hz0; clear hz0; have HLT := Lib.hid hlt; clear hlt
  have hct : 1 + Dat.countL ds1 ≤ 341 := by have := HCT1.out; simpa [nB] using this
  by_cases h5 : 5 ≤ x
  · have y0 : (x == 0) = false := by simp; omega
    have y1 : (x == 1) = false := by simp; omega
    have y2 : (x == 2) = false := by simp; omega
    have y3 : (x == 3) = false := by simp; omega
    have y4 : (x == 4) = false := by simp; omega
    have HCT := Lib.hid hct; clear hct; have HX0 := Lib.hid hx0; clear hx0; have HX1 := Lib.hid hx1; clear hx1; have H5 := Lib.hid h5; clear h5
    obtain ⟨r0, r1, r2, r3, g0, g1, g2, g3⟩ := HZ0.out
    obtain ⟨q0, q1, q2, q3, f0, f1, f2, f3⟩ := HBX.out
    go_wp2_with fail
    refine bodyPost_ret (v := .agg #[.int .i64 k1, .int .i64 n1, .string s1, .slice a1 ms1.length cap1]) (by simp [results, Try.results61, go_sem, r0, r1, r2, r3]) rfl ?_
    refine ⟨k1, n1, s1, ds1, a1, cap1, ms1, rfl, HI1.out, ?_, HW1.out, by have := HCT.out; omega, ?_, ?_⟩
    · (exact M.Mine.mono (M.Mine.keep HM2.out (fun b hb1 hb2 => by (try simp at hb1); simp (disch := (first | omega | (simp; omega))) only [heapSet, heapNew, heapDrew, heapDrewN])) (by first | omega | (simp; done) | (simp; omega)))
    · exact HC2.out.belowB (B := w.heap.size) (by (repeat (first | with_reducible assumption | with_reducible exact Below.refl _ _ | with_reducible refine Below.drew ?_ | with_reducible refine belowDrewN ?_ _ | ((with_reducible refine Below.setCell ?_ ?_ _); rotate_left; focus (first | omega | (simp; done) | (simp; omega))) | ((with_reducible refine Below.alloc ?_ ?_ _); rotate_left; focus (first | omega | (simp; done) | (simp; omega)))))) hpl
    · exact HO02.out.thenBelow (by (repeat (first | with_reducible assumption | with_reducible exact Below.refl _ _ | with_reducible refine Below.drew ?_ | with_reducible refine belowDrewN ?_ _ | ((with_reducible refine Below.setCell ?_ ?_ _); rotate_left; focus (first | omega | (simp; done) | (simp; omega))) | ((with_reducible refine Below.alloc ?_ ?_ _); rotate_left; focus (first | omega | (simp; done) | (simp; omega))))))
  · have hx : x = 0 ∨ x = 1 ∨ x = 2 ∨ x = 3 ∨ x = 4 := by omega
    clear hx0 hx1 h5
    rcases hx with rfl | rfl | rfl | rfl | rfl
    · have HCT := Lib.hid hct; clear hct
      go_wp2_with fail
      refine (l01Int_lit _ _ pb a cap l _ HC2.out ?size (by decide) (by decide) ?nums).mono ?_
      case size => rfl
      case nums => exact Nums.of (by rfl)
      rintro e w3 ⟨y, rfl, hy, hc3, ho3⟩
      have hz3 := ho3.size
      obtain ⟨r0, r1, r2, r3, g0, g1, g2, g3⟩ := HZ0.out.only ho3 (.inr (by omega))
      obtain ⟨q0, q1, q2, q3, f0, f1, f2, f3⟩ := HBX.out.only ho3 (.inr (by omega))
      have hm3 := HM2.out.keep (w' := w3) (fun b h1 h2 => ho3.block b h2 (.inr (by omega)))
      have ho03 := HO02.out.trans ho3
      have hw3 : (Dat.mk k1 y s1 ds1).wf := ⟨HW1.out.1, hy, HW1.out.2.2⟩
      have HY := Lib.hid hy; clear hy
      have HC3 := Lib.hid hc3; clear hc3; have HO3 := Lib.hid ho3; clear ho3; have HM3 := Lib.hid hm3; clear hm3; have HO03 := Lib.hid ho03; clear ho03; have HW3 := Lib.hid hw3; clear hw3
      go_wp2_with fail
      refine bodyPost_ret (v := .agg #[.int .i64 k1, .int .i64 y, .string s1, .slice a1 ms1.length cap1]) (by simp [results, Try.results61, go_sem, r0, r1, r2, r3]) rfl ?_
      refine ⟨k1, y, s1, ds1, a1, cap1, ms1, rfl, HI1.out, ?_, HW3.out, by have := HCT.out; omega, ?_, ?_⟩
      · exact M.Mine.mono ⟨M.Own.frame _ HM3.out.own fun b hb => by have h1_ := HLT.out b hb; have h2_ := HM3.out.lt b hb; simp (disch := (first | omega | (simp; omega))) only [heapSet], HM3.out.dup⟩ (by omega)
      · exact HC3.out.belowB (B := w.heap.size) (by (repeat (first | with_reducible assumption | with_reducible exact Below.refl _ _ | with_reducible refine Below.drew ?_ | with_reducible refine belowDrewN ?_ _ | ((with_reducible refine Below.setCell ?_ ?_ _); rotate_left; focus (first | omega | (simp; done) | (simp; omega))) | ((with_reducible refine Below.alloc ?_ ?_ _); rotate_left; focus (first | omega | (simp; done) | (simp; omega)))))) hpl
      · exact HO03.out.thenBelow (by (repeat (first | with_reducible assumption | with_reducible exact Below.refl _ _ | with_reducible refine Below.drew ?_ | with_reducible refine belowDrewN ?_ _ | ((with_reducible refine Below.setCell ?_ ?_ _); rotate_left; focus (first | omega | (simp; done) | (simp; omega))) | ((with_reducible refine Below.alloc ?_ ?_ _); rotate_left; focus (first | omega | (simp; done) | (simp; omega))))))
    · have HCT := Lib.hid hct; clear hct
      go_wp2_with fail
      refine (l01Pick_lit _ _ pb a cap l _ HC2.out ?size (by decide) (by decide) ?texts).mono ?_
      case size => rfl
      case texts => exact Texts.of (by rfl)
      rintro e w3 ⟨y, rfl, hy, hc3, ho3⟩
      have hz3 := ho3.size
      obtain ⟨r0, r1, r2, r3, g0, g1, g2, g3⟩ := HZ0.out.only ho3 (.inr (by omega))
      obtain ⟨q0, q1, q2, q3, f0, f1, f2, f3⟩ := HBX.out.only ho3 (.inr (by omega))
      have hm3 := HM2.out.keep (w' := w3) (fun b h1 h2 => ho3.block b h2 (.inr (by omega)))
      have ho03 := HO02.out.trans ho3
      have hw3 : (Dat.mk k1 n1 y ds1).wf := ⟨HW1.out.1, HW1.out.2.1, by omega, HW1.out.2.2.2⟩
      have HY := Lib.hid hy; clear hy
      have HC3 := Lib.hid hc3; clear hc3; have HO3 := Lib.hid ho3; clear ho3; have HM3 := Lib.hid hm3; clear hm3; have HO03 := Lib.hid ho03; clear ho03; have HW3 := Lib.hid hw3; clear hw3
      go_wp2_with fail
      refine bodyPost_ret (v := .agg #[.int .i64 k1, .int .i64 n1, .string y, .slice a1 ms1.length cap1]) (by simp [results, Try.results61, go_sem, r0, r1, r2, r3]) rfl ?_
      refine ⟨k1, n1, y, ds1, a1, cap1, ms1, rfl, HI1.out, ?_, HW3.out, by have := HCT.out; omega, ?_, ?_⟩
      · exact M.Mine.mono ⟨M.Own.frame _ HM3.out.own fun b hb => by have h1_ := HLT.out b hb; have h2_ := HM3.out.lt b hb; simp (disch := (first | omega | (simp; omega))) only [heapSet], HM3.out.dup⟩ (by omega)
      · exact HC3.out.belowB (B := w.heap.size) (by (repeat (first | with_reducible assumption | with_reducible exact Below.refl _ _ | with_reducible refine Below.drew ?_ | with_reducible refine belowDrewN ?_ _ | ((with_reducible refine Below.setCell ?_ ?_ _); rotate_left; focus (first | omega | (simp; done) | (simp; omega))) | ((with_reducible refine Below.alloc ?_ ?_ _); rotate_left; focus (first | omega | (simp; done) | (simp; omega)))))) hpl
      · exact HO03.out.thenBelow (by (repeat (first | with_reducible assumption | with_reducible exact Below.refl _ _ | with_reducible refine Below.drew ?_ | with_reducible refine belowDrewN ?_ _ | ((with_reducible refine Below.setCell ?_ ?_ _); rotate_left; focus (first | omega | (simp; done) | (simp; omega))) | ((with_reducible refine Below.alloc ?_ ?_ _); rotate_left; focus (first | omega | (simp; done) | (simp; omega))))))
    · have HCT := Lib.hid hct; clear hct
      go_wp2_with fail
      refine (l01Below_calls 7 pb a cap l _ HC2.out (by decide) (by decide)).mono ?_
      rintro e w3 ⟨y, rfl, hy0, hy1, hc3, ho3⟩
      have hwr : wrap64 (y - 1) = y - 1 := by unfold wrap64; omega
      have hz3 := ho3.size
      obtain ⟨r0, r1, r2, r3, g0, g1, g2, g3⟩ := HZ0.out.only ho3 (.inr (by omega))
      obtain ⟨q0, q1, q2, q3, f0, f1, f2, f3⟩ := HBX.out.only ho3 (.inr (by omega))
      have hm3 := HM2.out.keep (w' := w3) (fun b h1 h2 => ho3.block b h2 (.inr (by omega)))
      have ho03 := HO02.out.trans ho3
      have hw3 : (Dat.mk (y - 1) n1 s1 ds1).wf := ⟨by unfold I64; omega, HW1.out.2.1, HW1.out.2.2⟩
      have HY0 := Lib.hid hy0; clear hy0; have HY1 := Lib.hid hy1; clear hy1
      have HC3 := Lib.hid hc3; clear hc3; have HO3 := Lib.hid ho3; clear ho3; have HM3 := Lib.hid hm3; clear hm3; have HO03 := Lib.hid ho03; clear ho03; have HW3 := Lib.hid hw3; clear hw3
      go_wp2_with fail
      refine bodyPost_ret (v := .agg #[.int .i64 (y - 1), .int .i64 n1, .string s1, .slice a1 ms1.length cap1]) (by simp [results, Try.results61, go_sem, r0, r1, r2, r3]) rfl ?_
      refine ⟨(y - 1), n1, s1, ds1, a1, cap1, ms1, rfl, HI1.out, ?_, HW3.out, by have := HCT.out; omega, ?_, ?_⟩
      · exact M.Mine.mono ⟨M.Own.frame _ HM3.out.own fun b hb => by have h1_ := HLT.out b hb; have h2_ := HM3.out.lt b hb; simp (disch := (first | omega | (simp; omega))) only [heapSet], HM3.out.dup⟩ (by omega)
      · exact HC3.out.belowB (B := w.heap.size) (by (repeat (first | with_reducible assumption | with_reducible exact Below.refl _ _ | with_reducible refine Below.drew ?_ | with_reducible refine belowDrewN ?_ _ | ((with_reducible refine Below.setCell ?_ ?_ _); rotate_left; focus (first | omega | (simp; done) | (simp; omega))) | ((with_reducible refine Below.alloc ?_ ?_ _); rotate_left; focus (first | omega | (simp; done) | (simp; omega)))))) hpl
      · exact HO03.out.thenBelow (by (repeat (first | with_reducible assumption | with_reducible exact Below.refl _ _ | with_reducible refine Below.drew ?_ | with_reducible refine belowDrewN ?_ _ | ((with_reducible refine Below.setCell ?_ ?_ _); rotate_left; focus (first | omega | (simp; done) | (simp; omega))) | ((with_reducible refine Below.alloc ?_ ?_ _); rotate_left; focus (first | omega | (simp; done) | (simp; omega))))))
    · obtain ⟨q0, q1, q2, q3, f0, f1, f2, f3⟩ := HBX.out
      have hlm : ms1.length ≤ 400 := by have h1 := HI1.out.length; have h2 := Dat.length_le ds1; omega
      have hno : w1.heap.size ∉ addrBlocks a1 := fun hx => by have := HLT.out w1.heap.size (by simp only [M.blocks, List.mem_append]; exact .inl hx); omega
      have HCT := Lib.hid hct; clear hct; have HNO := Lib.hid hno; clear hno
      go_wp2_with (at_builtin; refine wpList_push2 (wr := w2) rfl _ _ 29 rfl 31 _ 4 56 Try.underlying29 infoDat rfl (by decide) (w.heap.size + 1) a1 cap1 ms1 rfl HM2.out (by omega) (by (repeat (first | with_reducible assumption | with_reducible exact Below.refl _ _ | with_reducible refine Below.drew ?_ | with_reducible refine belowDrewN ?_ _ | ((with_reducible refine Below.setCell ?_ ?_ _); rotate_left; focus (first | omega | (simp; done) | (simp; omega))) | ((with_reducible refine Below.alloc ?_ ?_ _); rotate_left; focus (first | omega | (simp; done) | (simp; omega)))))) _ (M.ag [.c (.int .i64 9), .c (.int .i64 0), .c (.string ⟨#[]⟩), .sl none 0 4 31 []]) rfl rfl w2.heap.size ⟨⟨rfl, rfl, rfl, (M.Mine.nil w2 _ 4 31 (by decide)).own, trivial⟩, by simp [M.blocks, M.blocksL, addrBlocks]⟩ (Nat.le_refl _) (by simp [go_sem]) (by unfold maxLen; omega) (by omega) ?_)
      intro a3 cap3 w3 hm3 hb3 hz3 hk3 hl3
      have hp3 : w1.heap.size < w3.heap.size := by omega
      obtain ⟨s0, s1', s2, s3, m0, m1, m2, m3⟩ : DBox w1.heap.size k1 n1 s1 (.slice a1 ms1.length cap1) w3 := HBX.out.of (hk3 _ (by omega) HNO.out)
      obtain ⟨r0, r1, r2, r3, g0, g1, g2, g3⟩ : Zero w.heap.size w3 := HZ0.out.of (hb3.block _ (by omega))
      have hlt3 : ∀ b ∈ (M.sl a3 cap3 4 31 (ms1 ++ [(M.ag [.c (.int .i64 9), .c (.int .i64 0), .c (.string ⟨#[]⟩), .sl none 0 4 31 []])])).blocks, b ≠ w1.heap.size := by
        intro b hb
        simp only [M.blocks, List.mem_append] at hb
        rcases hb with hb | hb
        · rcases hl3 b hb with h | h
          · intro he; subst he; exact HNO.out h
          · omega
        · rw [M.blocksL_append, List.mem_append] at hb
          rcases hb with hb | hb
          · have := HLT.out b (by simp only [M.blocks, List.mem_append]; exact .inr hb); omega
          · simp [M.blocksL, M.blocks, addrBlocks] at hb
      have hi3 : Dat.IsL 31 (ds1 ++ [.mk 9 0 ⟨#[]⟩ []]) (ms1 ++ [(M.ag [.c (.int .i64 9), .c (.int .i64 0), .c (.string ⟨#[]⟩), .sl none 0 4 31 []])]) := HI1.out.snoc ⟨none, 0, [], rfl, rfl⟩
      have hw3 : (Dat.mk k1 n1 s1 (ds1 ++ [.mk 9 0 ⟨#[]⟩ []])).wf := ⟨HW1.out.1, HW1.out.2.1, HW1.out.2.2.1, wfL_snoc HW1.out.2.2.2 ⟨by unfold I64; omega, by unfold I64; omega, by show (0 : Nat) ≤ _; omega, trivial⟩⟩
      have hct3 : 1 + Dat.countL (ds1 ++ [.mk 9 0 ⟨#[]⟩ []]) ≤ 400 := by have := HCT.out; rw [countL_snocD]; simp [Dat.count, Dat.countL]; omega
      have hml3 : (ms1 ++ [(M.ag [.c (.int .i64 9), .c (.int .i64 0), .c (.string ⟨#[]⟩), .sl none 0 4 31 []])]).length = ms1.length + 1 := by simp
      have hb23 : Below w.heap.size w2 w3 := hb3.mono (by omega)
      clear q0 q1 q2 q3 f0 f1 f2 f3 hk3 hl3
      have HM3 := Lib.hid hm3; clear hm3; have HLT3 := Lib.hid hlt3; clear hlt3; have HI3 := Lib.hid hi3; clear hi3; have HW3 := Lib.hid hw3; clear hw3; have HCT3 := Lib.hid hct3; clear hct3; have HML3 := Lib.hid hml3; clear hml3
      go_wp2_with fail
      refine bodyPost_ret (v := .agg #[.int .i64 k1, .int .i64 n1, .string s1, .slice a3 (ms1.length + 1) cap3]) (by simp [results, Try.results61, go_sem, r0, r1, r2, r3]) rfl ?_
      refine ⟨k1, n1, s1, _, a3, cap3, _, by rw [HML3.out], HI3.out, ?_, HW3.out, HCT3.out, ?_, ?_⟩
      · exact M.Mine.mono ⟨M.Own.frame _ HM3.out.own fun b hb => by have h1_ := HLT3.out b hb; have h2_ := HM3.out.lt b hb; simp (disch := (first | omega | (simp; omega))) only [heapSet], HM3.out.dup⟩ (by omega)
      · exact HC2.out.belowB (B := w.heap.size) (by (repeat (first | with_reducible assumption | with_reducible exact Below.refl _ _ | with_reducible refine Below.drew ?_ | with_reducible refine belowDrewN ?_ _ | ((with_reducible refine Below.setCell ?_ ?_ _); rotate_left; focus (first | omega | (simp; done) | (simp; omega))) | ((with_reducible refine Below.alloc ?_ ?_ _); rotate_left; focus (first | omega | (simp; done) | (simp; omega))) | ((with_reducible refine Below.trans ?_ (Below.mono hb23 ?_)); rotate_left; focus (first | omega | (simp; done) | (simp; omega)))))) hpl
      · exact HO02.out.thenBelow (by (repeat (first | with_reducible assumption | with_reducible exact Below.refl _ _ | with_reducible refine Below.drew ?_ | with_reducible refine belowDrewN ?_ _ | ((with_reducible refine Below.setCell ?_ ?_ _); rotate_left; focus (first | omega | (simp; done) | (simp; omega))) | ((with_reducible refine Below.alloc ?_ ?_ _); rotate_left; focus (first | omega | (simp; done) | (simp; omega))) | ((with_reducible refine Below.trans ?_ (Below.mono hb23 ?_)); rotate_left; focus (first | omega | (simp; done) | (simp; omega))))))
    · have HCT := Lib.hid hct; clear hct
      go_wp2_with fail
      go_loopw [4] (fun i wr => ∃ (j : Nat) (k n : Int) (s : ByteArray) (ds : List Dat) (a' : Option Addr) (cap' : Nat) (ms' : List M), j ≤ 21 ∧ i = .int .i64 j ∧ DBox w1.heap.size k n s (.slice a' ms'.length cap') wr ∧ Zero w.heap.size wr ∧ Dat.IsL 31 ds ms' ∧ (M.sl a' cap' 4 31 ms').Mine wr (w.heap.size + 1) ∧ (∀ b ∈ (M.sl a' cap' 4 31 ms').blocks, b ≠ w1.heap.size) ∧ (Dat.mk k n s ds).wf ∧ 1 + Dat.countL ds ≤ 341 + j ∧ Below w.heap.size w2 wr) (fun i _ => 21 - (intOf i).toNat)
      case atStart => exact ⟨0, k1, n1, s1, ds1, a1, cap1, ms1, by omega, rfl, HBX.out, HZ0.out, HI1.out, HM2.out, fun b hb => by have := HLT.out b hb; omega, HW1.out, by have := HCT.out; omega, Below.refl _ _⟩
      case round =>
        obtain ⟨j, k, n, s, ds, a', cap', ms', hj, rfl, hbx, hz, hi, hm, hnb, hwf, hct', hb⟩ := hrel
        have hzr := hb.size
        have p3 := hbx.lt
        have hbx0 := hbx
        have hz0 := hz
        have hcapm := hm.in_.len
        obtain ⟨q0, q1, q2, q3, f0, f1, f2, f3⟩ := hbx
        obtain ⟨r0, r1, r2, r3, g0, g1, g2, g3⟩ := hz
        by_cases hlt21 : j < 21
        · have HI := Lib.hid hi; clear hi; have HM := Lib.hid hm; clear hm; have HNB := Lib.hid hnb; clear hnb; have HWF := Lib.hid hwf; clear hwf; have HCT' := Lib.hid hct'; clear hct'; have HBX0 := Lib.hid hbx0; clear hbx0; have HZ0 := Lib.hid hz0; clear hz0
          go_wp2_with fail
          go_roundw
          case rel =>
            refine ⟨j + 1, 0, 0, ⟨#[]⟩, [.mk k n s ds], some ⟨wr.heap.size, 0, none⟩, 1, [.ag [.c (.int .i64 k), .c (.int .i64 n), .c (.string s), .sl a' cap' 4 31 ms']], by omega, by go_num, ?_, ?_, ⟨_, [], rfl, ⟨a', cap', ms', rfl, HI.out⟩, rfl⟩, ?_, ?_, ?_, ?_, ?_⟩
            · refine DBox.of (w := (((wr.setCell ⟨w1.heap.size, 0, none⟩ (.int .i64 0)).setCell ⟨w1.heap.size, 1, none⟩ (.int .i64 0)).setCell ⟨w1.heap.size, 2, none⟩ (.string ⟨#[]⟩)).setCell ⟨w1.heap.size, 3, none⟩ (.slice (some ⟨wr.heap.size, 0, none⟩) 1 1)) ((((HBX0.out.set0 0).set1 0).set2 ⟨#[]⟩).set3 _) ?_
              simp (disch := (first | omega | (simp; done) | (simp; omega))) only [heapNew]
            · refine HZ0.out.of ?_
              have := HZ0.out.lt
              simp (disch := (first | omega | (simp; done) | (simp; omega))) only [heapSet, heapNew]
            · have hmw : (M.sl a' cap' 4 31 ms').Mine ((((wr.setCell ⟨w1.heap.size, 0, none⟩ (.int .i64 0)).setCell ⟨w1.heap.size, 1, none⟩ (.int .i64 0)).setCell ⟨w1.heap.size, 2, none⟩ (.string ⟨#[]⟩)).setCell ⟨w1.heap.size, 3, none⟩ (.slice (some ⟨wr.heap.size, 0, none⟩) 1 1)) (w.heap.size + 1) :=
                ⟨M.Own.frame _ HM.out.own fun b hb' => by have h1_ := HNB.out b hb'; simp (disch := (first | omega | (simp; omega))) only [heapSet], HM.out.dup⟩
              have hN := M.Mine.new (w := ((((wr.setCell ⟨w1.heap.size, 0, none⟩ (.int .i64 0)).setCell ⟨w1.heap.size, 1, none⟩ (.int .i64 0)).setCell ⟨w1.heap.size, 2, none⟩ (.string ⟨#[]⟩)).setCell ⟨w1.heap.size, 3, none⟩ (.slice (some ⟨wr.heap.size, 0, none⟩) 1 1))) (lo := w.heap.size + 1) (sz := 4) (n := 1) (e := 31) (cs := #[.int .i64 k, .int .i64 n, .string s, .slice a' ms'.length cap']) (xs := [.ag [.c (.int .i64 k), .c (.int .i64 n), .c (.string s), .sl a' cap' 4 31 ms']]) rfl (by simp; omega) rfl (by decide) (by intro x hx; simp at hx; subst hx; rfl) (by decide) (MineL_one hmw k n s)
              simpa using hN
            · intro b hb'
              simp only [M.blocks, M.blocksL, List.mem_append, List.append_nil, List.nil_append] at hb'
              rcases hb' with hb' | hb'
              · simp [addrBlocks] at hb'; omega
              · exact HNB.out b (by simp only [M.blocks, List.mem_append]; exact hb')
            · exact ⟨by unfold I64; omega, by unfold I64; omega, by show (0 : Nat) ≤ _; omega, HWF.out, trivial⟩
            · have := HCT'.out; simp only [Dat.countL, Dat.count]; omega
            · (repeat (first | with_reducible assumption | with_reducible exact Below.refl _ _ | with_reducible refine Below.drew ?_ | with_reducible refine belowDrewN ?_ _ | ((with_reducible refine Below.setCell ?_ ?_ _); rotate_left; focus (first | omega | (simp; done) | (simp; omega))) | ((with_reducible refine Below.alloc ?_ ?_ _); rotate_left; focus (first | omega | (simp; done) | (simp; omega))) | ((with_reducible refine Below.trans ?_ (Below.mono hb ?_)); rotate_left; focus (first | omega | (simp; done) | (simp; omega)))))
          case measure => simp [intOf]; omega
        · have hj21 : j = 21 := by omega
          subst hj21
          have HI := Lib.hid hi; clear hi; have HM := Lib.hid hm; clear hm; have HNB := Lib.hid hnb; clear hnb; have HWF := Lib.hid hwf; clear hwf; have HCT' := Lib.hid hct'; clear hct'; have HBX0 := Lib.hid hbx0; clear hbx0; have HZ0 := Lib.hid hz0; clear hz0
          go_wp2_with fail
          refine bodyPost_ret (v := .agg #[.int .i64 k, .int .i64 n, .string s, .slice a' ms'.length cap']) (by simp [results, Try.results61, go_sem, r0, r1, r2, r3]) rfl ?_
          refine ⟨k, n, s, ds, a', cap', ms', rfl, HI.out, ?_, HWF.out, by have := HCT'.out; omega, ?_, ?_⟩
          · exact M.Mine.mono ⟨M.Own.frame _ HM.out.own fun b hb' => by have h1_ := HNB.out b hb'; have h2_ := HM.out.lt b hb'; simp (disch := (first | omega | (simp; omega))) only [heapSet], HM.out.dup⟩ (by omega)
          · exact HC2.out.belowB (B := w.heap.size) (by (repeat (first | with_reducible assumption | with_reducible exact Below.refl _ _ | with_reducible refine Below.drew ?_ | with_reducible refine belowDrewN ?_ _ | ((with_reducible refine Below.setCell ?_ ?_ _); rotate_left; focus (first | omega | (simp; done) | (simp; omega))) | ((with_reducible refine Below.alloc ?_ ?_ _); rotate_left; focus (first | omega | (simp; done) | (simp; omega))) | ((with_reducible refine Below.trans ?_ (Below.mono hb ?_)); rotate_left; focus (first | omega | (simp; done) | (simp; omega)))))) hpl
          · exact HO02.out.thenBelow (by (repeat (first | with_reducible assumption | with_reducible exact Below.refl _ _ | with_reducible refine Below.drew ?_ | with_reducible refine belowDrewN ?_ _ | ((with_reducible refine Below.setCell ?_ ?_ _); rotate_left; focus (first | omega | (simp; done) | (simp; omega))) | ((with_reducible refine Below.alloc ?_ ?_ _); rotate_left; focus (first | omega | (simp; done) | (simp; omega))) | ((with_reducible refine Below.trans ?_ (Below.mono hb ?_)); rotate_left; focus (first | omega | (simp; done) | (simp; omega))))))
end Go.Proofs.Ytoflfamfhpijcaa
