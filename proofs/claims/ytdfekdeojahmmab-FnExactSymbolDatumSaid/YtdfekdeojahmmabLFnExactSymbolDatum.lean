/-
  FnExactSymbolDatum: for every input the call returns true, and each argument reads afterwards as it read before. No condition.
-/
import Derived.Test.YtdfekdeojahmmabRows
import Derived.Test.YtdfekdeojahmmabOpen
import Derived.Test.YtdfekdeojahmmabHead
import Derived.Test.YtdfekdeojahmmabN7
import Derived.Test.YtdfekdeojahmmabDM2
import Derived.Test.YtdfekdeojahmmabMk
set_option linter.unusedVariables false
set_option linter.unusedSimpArgs false
set_option maxRecDepth 100000
namespace Go.Proofs.Ytdfekdeojahmmab
open Go.ChangeShapes Go.WideShapes Go.ChangeAt Go.RowKit

theorem own_ : ownKnob Try.prog.godebug = none := by kernel_rfl
theorem laidOut_ : laidOutB Try.prog = true := by kernel_rfl

theorem fnExactSymbolDatum_walk (s_0 : ByteArray) (w : World) (ws_0 : s_0.size ≤ 9223372036854775807) :
    Calls Try.prog 9 #[.string s_0] w (Ret (.bool true) w) := by
  go_enter Try.func9, Try.ntmps9
  rcases Nat.lt_or_ge 1048576 (s_0.size) with hcnt0 | hcnt0
  · go_wp2_with fail
    go_ret
    exact ⟨rfl, by (repeat (first | with_reducible assumption | with_reducible exact Below.refl _ _ | with_reducible refine Below.drew ?_ | with_reducible refine belowDrewN ?_ _ | ((with_reducible refine Below.setCell ?_ ?_ _); rotate_left; focus (first | omega | (simp; done) | (simp; omega))) | ((with_reducible refine Below.alloc ?_ ?_ _); rotate_left; focus (first | omega | (simp; done) | (simp; omega)))))⟩
  go_wp2_with fail
  refine (sSymbolDatum_calls s_0 _ ws_0).mono ?_
  rintro e w1 ⟨a1, c1, ms1, rfl, hi1_, hm1, hb1⟩
  obtain ⟨hc1, hf1⟩ := bcell hb1; have hz1 := hb1.size; (try simp only [World.size_alloc, World.size_setCell, World.size_drew, sizeDrewN] at hz1 hc1 hf1)
  have ha1 := M.At.of hm1
  clear hm1
  (try simp only [World.size_alloc, World.size_setCell, World.size_drew, sizeDrewN] at ha1)
  have HA1 := Lib.hid ha1; clear ha1
  have HI1_ := Lib.hid hi1_; clear hi1_
  (try simp only [Dat.k_mk, Dat.n_mk, Dat.s_mk, Dat.ds_mk] at *)
  go_wp2_with fail
  refine (iSymbolDatum_calls s_0 _ ws_0).mono ?_
  rintro e w2 ⟨a2, c2, ms2, rfl, hi2_, hm2, hb2⟩
  obtain ⟨hc2, hf2⟩ := bcell hb2; have hz2 := hb2.size; (try simp only [World.size_alloc, World.size_setCell, World.size_drew, sizeDrewN] at hz2 hc2 hf2)
  have ha2 := M.At.of hm2
  clear hm2
  (try simp only [World.size_alloc, World.size_setCell, World.size_drew, sizeDrewN] at ha2)
  have HA2 := Lib.hid ha2; clear ha2
  have HI2_ := Lib.hid hi2_; clear hi2_
  (try simp only [Dat.k_mk, Dat.n_mk, Dat.s_mk, Dat.ds_mk] at *)
  have q2 : ((w2.cell? ⟨w1.heap.size, 0, none⟩ = some (.int .i64 ((onlyN (isSymB s_0) 1))) ∧ w2.cell? ⟨w1.heap.size, 1, none⟩ = some (.int .i64 ((0 : Int))) ∧ w2.cell? ⟨w1.heap.size, 2, none⟩ = some (.string ((onlyS (isSymB s_0) s_0))) ∧ w2.cell? ⟨w1.heap.size, 3, none⟩ = some (.slice a1 ms1.length c1))) := by
    refine ⟨?_, ?_, ?_, ?_⟩ <;> first | (simp (disch := omega) [go_sem, hc2]; done) | (simp (disch := omega) [go_sem, hc2]; rfl)
  clear hc2
  have hp2_0 : w1.heap.size < w2.heap.size := by omega
  go_wp2_with fail
  refine (eqDatum_of (([] : List Dat)) (eqDatumS_calls (([] : List Dat))) ((onlyN (isSymB s_0) 1)) ((0 : Int)) ((onlyS (isSymB s_0) s_0)) a2 c2 ms2 a1 c1 ms1 _ HI2_.out (HA2.out.in_.below (by (repeat (first | with_reducible assumption | with_reducible exact Below.refl _ _ | with_reducible refine Below.drew ?_ | with_reducible refine belowDrewN ?_ _ | ((with_reducible refine Below.setCell ?_ ?_ _); rotate_left; focus (first | omega | (simp; done) | (simp; omega))) | ((with_reducible refine Below.alloc ?_ ?_ _); rotate_left; focus (first | omega | (simp; done) | (simp; omega))))))) HI1_.out (HA1.out.in_.below (by (repeat (first | with_reducible assumption | with_reducible exact Below.refl _ _ | with_reducible refine Below.drew ?_ | with_reducible refine belowDrewN ?_ _ | ((with_reducible refine Below.setCell ?_ ?_ _); rotate_left; focus (first | omega | (simp; done) | (simp; omega))) | ((with_reducible refine Below.alloc ?_ ?_ _); rotate_left; focus (first | omega | (simp; done) | (simp; omega))) | ((with_reducible refine Below.trans ?_ (Below.mono hb2 ?_)); rotate_left; focus (first | omega | (simp; done) | (simp; omega)))))))).mono ?_
  rintro e w3 ⟨rfl, hb3⟩
  obtain ⟨hc3, hf3⟩ := bcell hb3; have hz3 := hb3.size; (try simp only [World.size_alloc, World.size_setCell, World.size_drew, sizeDrewN] at hz3 hc3 hf3)
  have q3 : ((w3.cell? ⟨w1.heap.size, 0, none⟩ = some (.int .i64 ((onlyN (isSymB s_0) 1))) ∧ w3.cell? ⟨w1.heap.size, 1, none⟩ = some (.int .i64 ((0 : Int))) ∧ w3.cell? ⟨w1.heap.size, 2, none⟩ = some (.string ((onlyS (isSymB s_0) s_0))) ∧ w3.cell? ⟨w1.heap.size, 3, none⟩ = some (.slice a1 ms1.length c1)) ∧ (w3.cell? ⟨w2.heap.size, 0, none⟩ = some (.int .i64 ((onlyN (isSymB s_0) 1))) ∧ w3.cell? ⟨w2.heap.size, 1, none⟩ = some (.int .i64 ((0 : Int))) ∧ w3.cell? ⟨w2.heap.size, 2, none⟩ = some (.string ((onlyS (isSymB s_0) s_0))) ∧ w3.cell? ⟨w2.heap.size, 3, none⟩ = some (.slice a2 ms2.length c2))) := by
    refine ⟨⟨?_, ?_, ?_, ?_⟩, ⟨?_, ?_, ?_, ?_⟩⟩ <;> first | (simp (disch := omega) [go_sem, hc3, q2]; done) | (simp (disch := omega) [go_sem, hc3, q2]; rfl)
  clear hc3 q2
  clear hp2_0
  have hp3_0 : w1.heap.size < w3.heap.size := by omega
  have hp3_1 : w2.heap.size < w3.heap.size := by omega
  go_wp2_with fail
  refine (markDatum_at (([] : List Dat)) ((onlyN (isSymB s_0) 1)) ((0 : Int)) ((onlyS (isSymB s_0) s_0)) a2 c2 ms2 1 _ _ _ HI2_.out (HA2.out.below (by (repeat (first | with_reducible assumption | with_reducible exact Below.refl _ _ | with_reducible refine Below.drew ?_ | with_reducible refine belowDrewN ?_ _ | ((with_reducible refine Below.setCell ?_ ?_ _); rotate_left; focus (first | omega | (simp; done) | (simp; omega))) | ((with_reducible refine Below.alloc ?_ ?_ _); rotate_left; focus (first | omega | (simp; done) | (simp; omega))) | ((with_reducible refine Below.trans ?_ (Below.mono hb3 ?_)); rotate_left; focus (first | omega | (simp; done) | (simp; omega))))))) (by omega) (by first | omega | (simp; omega) | (simp [Dat.countL]; done))).mono ?_
  rintro e w4 ⟨ms4, rfl, hml4, him4, ham4, ho4⟩
  obtain ⟨hc4, hf4⟩ := ocell ho4; have hz4 := ho4.size
  (try simp only [World.size_alloc, World.size_setCell, World.size_drew, sizeDrewN] at hz4 hc4 hf4)
  have hb4 := ho4.below (B := w.heap.size) (by first | omega | (simp; omega)) (by first | omega | (simp; omega))
  have hpos4 : (0 : Int) ≤ (1 + 3 * (Dat.countL (([] : List Dat)) : Int)) := by omega
  have ha_ := (M.At.below HA1.out (by (repeat (first | with_reducible assumption | with_reducible exact Below.refl _ _ | with_reducible refine Below.drew ?_ | with_reducible refine belowDrewN ?_ _ | ((with_reducible refine Below.setCell ?_ ?_ _); rotate_left; focus (first | omega | (simp; done) | (simp; omega))) | ((with_reducible refine Below.alloc ?_ ?_ _); rotate_left; focus (first | omega | (simp; done) | (simp; omega))) | ((with_reducible refine Below.trans ?_ (Below.mono hb2 ?_)); rotate_left; focus (first | omega | (simp; done) | (simp; omega))) | ((with_reducible refine Below.trans ?_ (Below.mono hb3 ?_)); rotate_left; focus (first | omega | (simp; done) | (simp; omega))))))).onlyIn ho4 (by omega); clear HA1; have HA1 := Lib.hid ha_; clear ha_
  clear HA2; have HA2 := Lib.hid ham4; clear ham4 ho4
  have HIM4 := Lib.hid him4; clear him4
  have q4 : ((w4.cell? ⟨w1.heap.size, 0, none⟩ = some (.int .i64 ((onlyN (isSymB s_0) 1))) ∧ w4.cell? ⟨w1.heap.size, 1, none⟩ = some (.int .i64 ((0 : Int))) ∧ w4.cell? ⟨w1.heap.size, 2, none⟩ = some (.string ((onlyS (isSymB s_0) s_0))) ∧ w4.cell? ⟨w1.heap.size, 3, none⟩ = some (.slice a1 ms1.length c1)) ∧ (w4.cell? ⟨w2.heap.size, 0, none⟩ = some (.int .i64 ((onlyN (isSymB s_0) 1))) ∧ w4.cell? ⟨w2.heap.size, 1, none⟩ = some (.int .i64 ((0 : Int))) ∧ w4.cell? ⟨w2.heap.size, 2, none⟩ = some (.string ((onlyS (isSymB s_0) s_0))) ∧ w4.cell? ⟨w2.heap.size, 3, none⟩ = some (.slice a2 ms2.length c2))) := by
    refine ⟨⟨?_, ?_, ?_, ?_⟩, ⟨?_, ?_, ?_, ?_⟩⟩ <;> first | (simp (disch := omega) [go_sem, hc4, q3]; done) | (simp (disch := omega) [go_sem, hc4, q3]; rfl)
  clear hc4 q3
  clear hp3_0 hp3_1
  have hp4_0 : w1.heap.size < w4.heap.size := by omega
  have hp4_1 : w2.heap.size < w4.heap.size := by omega
  go_wp2_with fail
  refine (heldDatum_of (([] : List Dat)) ((onlyN (isSymB s_0) 1)) ((0 : Int)) ((onlyS (isSymB s_0) s_0)) a2 c2 ms4 _ 1 _ hml4 HIM4.out (HA2.out.in_.below (by (repeat (first | with_reducible assumption | with_reducible exact Below.refl _ _ | with_reducible refine Below.drew ?_ | with_reducible refine belowDrewN ?_ _ | ((with_reducible refine Below.setCell ?_ ?_ _); rotate_left; focus (first | omega | (simp; done) | (simp; omega))) | ((with_reducible refine Below.alloc ?_ ?_ _); rotate_left; focus (first | omega | (simp; done) | (simp; omega))))))) (by omega) (by first | omega | (simp; omega) | (simp [Dat.countL]; done))).mono ?_
  rintro e w5 ⟨rfl, hb5⟩
  obtain ⟨hc5, hf5⟩ := bcell hb5; have hz5 := hb5.size; (try simp only [World.size_alloc, World.size_setCell, World.size_drew, sizeDrewN] at hz5 hc5 hf5)
  have q5 : ((w5.cell? ⟨w1.heap.size, 0, none⟩ = some (.int .i64 ((onlyN (isSymB s_0) 1))) ∧ w5.cell? ⟨w1.heap.size, 1, none⟩ = some (.int .i64 ((0 : Int))) ∧ w5.cell? ⟨w1.heap.size, 2, none⟩ = some (.string ((onlyS (isSymB s_0) s_0))) ∧ w5.cell? ⟨w1.heap.size, 3, none⟩ = some (.slice a1 ms1.length c1)) ∧ (w5.cell? ⟨w2.heap.size, 0, none⟩ = some (.int .i64 ((onlyN (isSymB s_0) 1))) ∧ w5.cell? ⟨w2.heap.size, 1, none⟩ = some (.int .i64 ((0 : Int))) ∧ w5.cell? ⟨w2.heap.size, 2, none⟩ = some (.string ((onlyS (isSymB s_0) s_0))) ∧ w5.cell? ⟨w2.heap.size, 3, none⟩ = some (.slice a2 ms2.length c2))) := by
    refine ⟨⟨?_, ?_, ?_, ?_⟩, ⟨?_, ?_, ?_, ?_⟩⟩ <;> first | (simp (disch := omega) [go_sem, hc5, q4]; done) | (simp (disch := omega) [go_sem, hc5, q4]; rfl)
  clear hc5 q4
  clear hp4_0 hp4_1
  have hp5_0 : w1.heap.size < w5.heap.size := by omega
  have hp5_1 : w2.heap.size < w5.heap.size := by omega
  go_wp2_with fail
  refine (iSymbolDatum_calls s_0 _ ws_0).mono ?_
  rintro e w6 ⟨a6, c6, ms6, rfl, hi6_, hm6, hb6⟩
  obtain ⟨hc6, hf6⟩ := bcell hb6; have hz6 := hb6.size; (try simp only [World.size_alloc, World.size_setCell, World.size_drew, sizeDrewN] at hz6 hc6 hf6)
  have ha6 := M.At.of hm6
  clear hm6
  (try simp only [World.size_alloc, World.size_setCell, World.size_drew, sizeDrewN] at ha6)
  have HA6 := Lib.hid ha6; clear ha6
  have HI6_ := Lib.hid hi6_; clear hi6_
  (try simp only [Dat.k_mk, Dat.n_mk, Dat.s_mk, Dat.ds_mk] at *)
  have q6 : ((w6.cell? ⟨w1.heap.size, 0, none⟩ = some (.int .i64 ((onlyN (isSymB s_0) 1))) ∧ w6.cell? ⟨w1.heap.size, 1, none⟩ = some (.int .i64 ((0 : Int))) ∧ w6.cell? ⟨w1.heap.size, 2, none⟩ = some (.string ((onlyS (isSymB s_0) s_0))) ∧ w6.cell? ⟨w1.heap.size, 3, none⟩ = some (.slice a1 ms1.length c1)) ∧ (w6.cell? ⟨w2.heap.size, 0, none⟩ = some (.int .i64 ((onlyN (isSymB s_0) 1))) ∧ w6.cell? ⟨w2.heap.size, 1, none⟩ = some (.int .i64 ((0 : Int))) ∧ w6.cell? ⟨w2.heap.size, 2, none⟩ = some (.string ((onlyS (isSymB s_0) s_0))) ∧ w6.cell? ⟨w2.heap.size, 3, none⟩ = some (.slice a2 ms2.length c2))) := by
    refine ⟨⟨?_, ?_, ?_, ?_⟩, ⟨?_, ?_, ?_, ?_⟩⟩ <;> first | (simp (disch := omega) [go_sem, hc6, q5]; done) | (simp (disch := omega) [go_sem, hc6, q5]; rfl)
  clear hc6 q5
  clear hp5_0 hp5_1
  have hp6_0 : w1.heap.size < w6.heap.size := by omega
  have hp6_1 : w2.heap.size < w6.heap.size := by omega
  go_wp2_with fail
  refine (eqDatum_of (([] : List Dat)) (eqDatumS_calls (([] : List Dat))) ((onlyN (isSymB s_0) 1)) ((0 : Int)) ((onlyS (isSymB s_0) s_0)) a6 c6 ms6 a1 c1 ms1 _ HI6_.out (HA6.out.in_.below (by (repeat (first | with_reducible assumption | with_reducible exact Below.refl _ _ | with_reducible refine Below.drew ?_ | with_reducible refine belowDrewN ?_ _ | ((with_reducible refine Below.setCell ?_ ?_ _); rotate_left; focus (first | omega | (simp; done) | (simp; omega))) | ((with_reducible refine Below.alloc ?_ ?_ _); rotate_left; focus (first | omega | (simp; done) | (simp; omega))))))) HI1_.out (HA1.out.in_.below (by (repeat (first | with_reducible assumption | with_reducible exact Below.refl _ _ | with_reducible refine Below.drew ?_ | with_reducible refine belowDrewN ?_ _ | ((with_reducible refine Below.setCell ?_ ?_ _); rotate_left; focus (first | omega | (simp; done) | (simp; omega))) | ((with_reducible refine Below.alloc ?_ ?_ _); rotate_left; focus (first | omega | (simp; done) | (simp; omega))) | ((with_reducible refine Below.trans ?_ (Below.mono hb5 ?_)); rotate_left; focus (first | omega | (simp; done) | (simp; omega))) | ((with_reducible refine Below.trans ?_ (Below.mono hb6 ?_)); rotate_left; focus (first | omega | (simp; done) | (simp; omega)))))))).mono ?_
  rintro e w7 ⟨rfl, hb7⟩
  obtain ⟨hc7, hf7⟩ := bcell hb7; have hz7 := hb7.size; (try simp only [World.size_alloc, World.size_setCell, World.size_drew, sizeDrewN] at hz7 hc7 hf7)
  have q7 : ((w7.cell? ⟨w1.heap.size, 0, none⟩ = some (.int .i64 ((onlyN (isSymB s_0) 1))) ∧ w7.cell? ⟨w1.heap.size, 1, none⟩ = some (.int .i64 ((0 : Int))) ∧ w7.cell? ⟨w1.heap.size, 2, none⟩ = some (.string ((onlyS (isSymB s_0) s_0))) ∧ w7.cell? ⟨w1.heap.size, 3, none⟩ = some (.slice a1 ms1.length c1)) ∧ (w7.cell? ⟨w2.heap.size, 0, none⟩ = some (.int .i64 ((onlyN (isSymB s_0) 1))) ∧ w7.cell? ⟨w2.heap.size, 1, none⟩ = some (.int .i64 ((0 : Int))) ∧ w7.cell? ⟨w2.heap.size, 2, none⟩ = some (.string ((onlyS (isSymB s_0) s_0))) ∧ w7.cell? ⟨w2.heap.size, 3, none⟩ = some (.slice a2 ms2.length c2)) ∧ (w7.cell? ⟨w6.heap.size, 0, none⟩ = some (.int .i64 ((onlyN (isSymB s_0) 1))) ∧ w7.cell? ⟨w6.heap.size, 1, none⟩ = some (.int .i64 ((0 : Int))) ∧ w7.cell? ⟨w6.heap.size, 2, none⟩ = some (.string ((onlyS (isSymB s_0) s_0))) ∧ w7.cell? ⟨w6.heap.size, 3, none⟩ = some (.slice a6 ms6.length c6))) := by
    refine ⟨⟨?_, ?_, ?_, ?_⟩, ⟨?_, ?_, ?_, ?_⟩, ⟨?_, ?_, ?_, ?_⟩⟩ <;> first | (simp (disch := omega) [go_sem, hc7, q6]; done) | (simp (disch := omega) [go_sem, hc7, q6]; rfl)
  clear hc7 q6
  clear hp6_0 hp6_1
  have hp7_0 : w1.heap.size < w7.heap.size := by omega
  have hp7_1 : w2.heap.size < w7.heap.size := by omega
  have hp7_2 : w6.heap.size < w7.heap.size := by omega
  go_wp2_with fail
  refine (heldDatum_of (([] : List Dat)) ((onlyN (isSymB s_0) 1)) ((0 : Int)) ((onlyS (isSymB s_0) s_0)) a2 c2 ms4 _ 1 _ hml4 HIM4.out (HA2.out.in_.below (by (repeat (first | with_reducible assumption | with_reducible exact Below.refl _ _ | with_reducible refine Below.drew ?_ | with_reducible refine belowDrewN ?_ _ | ((with_reducible refine Below.setCell ?_ ?_ _); rotate_left; focus (first | omega | (simp; done) | (simp; omega))) | ((with_reducible refine Below.alloc ?_ ?_ _); rotate_left; focus (first | omega | (simp; done) | (simp; omega))) | ((with_reducible refine Below.trans ?_ (Below.mono hb5 ?_)); rotate_left; focus (first | omega | (simp; done) | (simp; omega))) | ((with_reducible refine Below.trans ?_ (Below.mono hb6 ?_)); rotate_left; focus (first | omega | (simp; done) | (simp; omega))) | ((with_reducible refine Below.trans ?_ (Below.mono hb7 ?_)); rotate_left; focus (first | omega | (simp; done) | (simp; omega))))))) (by omega) (by first | omega | (simp; omega) | (simp [Dat.countL]; done))).mono ?_
  rintro e w8 ⟨rfl, hb8⟩
  obtain ⟨hc8, hf8⟩ := bcell hb8; have hz8 := hb8.size; (try simp only [World.size_alloc, World.size_setCell, World.size_drew, sizeDrewN] at hz8 hc8 hf8)
  have q8 : ((w8.cell? ⟨w1.heap.size, 0, none⟩ = some (.int .i64 ((onlyN (isSymB s_0) 1))) ∧ w8.cell? ⟨w1.heap.size, 1, none⟩ = some (.int .i64 ((0 : Int))) ∧ w8.cell? ⟨w1.heap.size, 2, none⟩ = some (.string ((onlyS (isSymB s_0) s_0))) ∧ w8.cell? ⟨w1.heap.size, 3, none⟩ = some (.slice a1 ms1.length c1)) ∧ (w8.cell? ⟨w2.heap.size, 0, none⟩ = some (.int .i64 ((onlyN (isSymB s_0) 1))) ∧ w8.cell? ⟨w2.heap.size, 1, none⟩ = some (.int .i64 ((0 : Int))) ∧ w8.cell? ⟨w2.heap.size, 2, none⟩ = some (.string ((onlyS (isSymB s_0) s_0))) ∧ w8.cell? ⟨w2.heap.size, 3, none⟩ = some (.slice a2 ms2.length c2)) ∧ (w8.cell? ⟨w6.heap.size, 0, none⟩ = some (.int .i64 ((onlyN (isSymB s_0) 1))) ∧ w8.cell? ⟨w6.heap.size, 1, none⟩ = some (.int .i64 ((0 : Int))) ∧ w8.cell? ⟨w6.heap.size, 2, none⟩ = some (.string ((onlyS (isSymB s_0) s_0))) ∧ w8.cell? ⟨w6.heap.size, 3, none⟩ = some (.slice a6 ms6.length c6))) := by
    refine ⟨⟨?_, ?_, ?_, ?_⟩, ⟨?_, ?_, ?_, ?_⟩, ⟨?_, ?_, ?_, ?_⟩⟩ <;> first | (simp (disch := omega) [go_sem, hc8, q7]; done) | (simp (disch := omega) [go_sem, hc8, q7]; rfl)
  clear hc8 q7
  clear hp7_0 hp7_1 hp7_2
  have hp8_0 : w1.heap.size < w8.heap.size := by omega
  have hp8_1 : w2.heap.size < w8.heap.size := by omega
  have hp8_2 : w6.heap.size < w8.heap.size := by omega
  go_wp2_with fail
  go_ret
  exact ⟨rfl, by (repeat (first | with_reducible assumption | with_reducible exact Below.refl _ _ | with_reducible refine Below.drew ?_ | with_reducible refine belowDrewN ?_ _ | ((with_reducible refine Below.setCell ?_ ?_ _); rotate_left; focus (first | omega | (simp; done) | (simp; omega))) | ((with_reducible refine Below.alloc ?_ ?_ _); rotate_left; focus (first | omega | (simp; done) | (simp; omega))) | ((with_reducible refine Below.trans ?_ (Below.mono hb1 ?_)); rotate_left; focus (first | omega | (simp; done) | (simp; omega))) | ((with_reducible refine Below.trans ?_ (Below.mono hb2 ?_)); rotate_left; focus (first | omega | (simp; done) | (simp; omega))) | ((with_reducible refine Below.trans ?_ (Below.mono hb3 ?_)); rotate_left; focus (first | omega | (simp; done) | (simp; omega))) | ((with_reducible refine Below.trans ?_ (Below.mono hb4 ?_)); rotate_left; focus (first | omega | (simp; done) | (simp; omega))) | ((with_reducible refine Below.trans ?_ (Below.mono hb5 ?_)); rotate_left; focus (first | omega | (simp; done) | (simp; omega))) | ((with_reducible refine Below.trans ?_ (Below.mono hb6 ?_)); rotate_left; focus (first | omega | (simp; done) | (simp; omega))) | ((with_reducible refine Below.trans ?_ (Below.mono hb7 ?_)); rotate_left; focus (first | omega | (simp; done) | (simp; omega))) | ((with_reducible refine Below.trans ?_ (Below.mono hb8 ?_)); rotate_left; focus (first | omega | (simp; done) | (simp; omega)))))⟩

set_option maxRecDepth 100000 in
theorem fnExactSymbolDatum_lifted (os : Os) (started : os.Started) (H : Type) (enc : TypeId × Value → H) :
    ReturnsInHanded {} Try.checked os 9 .any (Rows.fnExactSymbolDatumSpec.pre6 enc Try.prog Try.f9 Rows.fnExactSymbolDatumRow.domain false) (Rows.fnExactSymbolDatumSpec.post enc Try.prog Try.f9 false true false false) := by
  refine returnsInHanded_of_change (C := Try.checked) own_ started (by kernel_rfl) Try.func9
    (ChangeSpec.witness6 (enc := enc) (C := Try.checked) false ⟨#[], #[.string ⟨#[]⟩], []⟩ 8 (by kernel_rfl) (by kernel_rfl) (by kernel_rfl) (by kernel_rfl)) ?_
  intro W base args ds gs before hval0 hW hcnd _
  have hval : ∀ (j : Nat) t v, Try.f9.params[j]? = some t → args[j]? = some v → Value.okWide Try.prog W .any base t v := hval0
  have hW' := hW
  obtain ⟨p, q, hA0, hV, rfl, hfz, hnd⟩ := hW
  have hA : DataW.TrodAll enc Try.prog W 0 (fun _ => true) true Try.f9.params.toList args.toList ds p := hA0
  rw [Try.params9] at hA hval
  obtain ⟨v0, vs0, d0, ds0_, p0, q0, hargs, rfl, rfl, h0, r0⟩ := trodAll_cons hA
  obtain ⟨rfl, rfl, rfl⟩ := trodAll_nil r0
  obtain rfl : args = #[v0] := by cases args; simp_all
  obtain ⟨rfl, rfl⟩ := trodVars_none hV
  have k0_ := h0
  have lt0 : ∀ x ∈ p0, x.block < W.heap.size := by obtain ⟨m, hm⟩ := k0_; exact DataW.trod_lt m _ _ _ hm
  obtain ⟨s0, rfl, ws0⟩ := arg_str (hval 0 9 v0 rfl rfl) h0
  clear hA0 hval0
  refine (fnExactSymbolDatum_walk s0 W ws0).mono fun e W' ⟨he, bel⟩ => ?_
  subst he
  exact ⟨_, rfl, _, _, _, [], _, [], hW', trodAll_mk1 (shut_bool Try.underlying4 _), (trodAll_cons_mk (Below.trod laidOut_ (by kernel_rfl) (of_decide_eq_true (by kernel_rfl)) k0_ bel lt0) trodAll_mk0), rfl, bel.frame _, fun h => by cases h⟩

theorem fnExactSymbolDatum_facts : joinedFacts Try.prog 9 Try.f9 Rows.fnExactSymbolDatumSpec Rows.fnExactSymbolDatumRow = true := by
  unfold joinedFacts
  repeat' with_reducible refine and_mk ?_ ?_
  all_goals first | with_reducible exact mayEnter_ | (rw [lifts_]; kernel_rfl) | (rw [make_]; kernel_rfl) | (as_aux_lemma => kernel_rfl)

/-- FnExactSymbolDatum: for every input the call returns true, and each argument reads afterwards as before. No condition. -/
theorem fnExactSymbolDatum_holds : Rows.FnExactSymbolDatumSaid :=
  OpenClaim.holds_of_wide 9 Try.f9 rfl rfl rfl rfl rfl rfl rfl ⟨rfl, rfl, rfl, rfl, rfl⟩ rfl rfl rfl rfl rfl (by as_aux_lemma => kernel_rfl) Try.func9 fnExactSymbolDatum_facts
    (of_decide_eq_true (by kernel_rfl)) (by unfold Func.isWrapper; first | (rw [if_pos (by decide +kernel)]; kernel_rfl) | (rw [if_neg (by decide +kernel)]; exact ⟨rfl, rfl⟩))
    (fun os started H enc _ => fnExactSymbolDatum_lifted os started H enc)
#print axioms fnExactSymbolDatum_holds

end Go.Proofs.Ytdfekdeojahmmab
