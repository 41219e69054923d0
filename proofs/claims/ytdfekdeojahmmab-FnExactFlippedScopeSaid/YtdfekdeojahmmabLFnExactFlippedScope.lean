/-
  FnExactFlippedScope: for every input the call returns true, and each argument reads afterwards as it read before. No condition.
-/
import Derived.Test.YtdfekdeojahmmabRows
import Derived.Test.YtdfekdeojahmmabOpen
import Derived.Test.YtdfekdeojahmmabHead
import Derived.Test.YtdfekdeojahmmabI4
import Derived.Test.YtdfekdeojahmmabMk
set_option linter.unusedVariables false
set_option linter.unusedSimpArgs false
set_option maxRecDepth 100000
namespace Go.Proofs.Ytdfekdeojahmmab
open Go.ChangeShapes Go.WideShapes Go.ChangeAt Go.RowKit

theorem own_ : ownKnob Try.prog.godebug = none := by kernel_rfl
theorem laidOut_ : laidOutB Try.prog = true := by kernel_rfl

theorem fnExactFlippedScope_walk (a_0 : Option Addr) (c_0 : Nat) (l_0 : List Int) (n_1 : Int) (w : World) (hin_0 : (M.sl a_0 c_0 1 3 (intM l_0)).In w) (wl_0 : ∀ n ∈ l_0, I64 n) (wn_1 : I64 n_1) :
    Calls Try.prog 4 #[.slice a_0 (l_0).length c_0, .int .i64 n_1] w (Ret (.bool true) w) := by
  have hlen_0 := Ints.len hin_0
  have hwo := flipS_length l_0 n_1
  have HIN_0 := Lib.hid hin_0; clear hin_0; have WL_0 := Lib.hid wl_0; clear wl_0
  go_enter Try.func4, Try.ntmps4
  rcases Nat.lt_or_ge 1048576 (l_0).length with hcnt0 | hcnt0
  · go_wp2_with fail
    go_ret
    exact ⟨rfl, by (repeat (first | with_reducible assumption | with_reducible exact Below.refl _ _ | with_reducible refine Below.drew ?_ | with_reducible refine belowDrewN ?_ _ | ((with_reducible refine Below.setCell ?_ ?_ _); rotate_left; focus (first | omega | (simp; done) | (simp; omega))) | ((with_reducible refine Below.alloc ?_ ?_ _); rotate_left; focus (first | omega | (simp; done) | (simp; omega)))))⟩
  go_wp2_with fail
  refine (toIntS_calls a_0 c_0 l_0 _ (HIN_0.out.below (by (repeat (first | with_reducible assumption | with_reducible exact Below.refl _ _ | with_reducible refine Below.drew ?_ | with_reducible refine belowDrewN ?_ _ | ((with_reducible refine Below.setCell ?_ ?_ _); rotate_left; focus (first | omega | (simp; done) | (simp; omega))) | ((with_reducible refine Below.alloc ?_ ?_ _); rotate_left; focus (first | omega | (simp; done) | (simp; omega))))))) hcnt0).mono ?_
  rintro e w1 ⟨a1, c1, rfl, hm1, hb1⟩
  obtain ⟨hc1, hf1⟩ := bcell hb1; have hz1 := hb1.size; (try simp only [World.size_alloc, World.size_setCell, World.size_drew, sizeDrewN] at hz1 hc1 hf1)
  have ha1 := M.At.of hm1
  clear hm1
  (try simp only [World.size_alloc, World.size_setCell, World.size_drew, sizeDrewN] at ha1)
  have HA1 := Lib.hid ha1; clear ha1
  go_wp2_with fail
  refine (sFlippedScope_calls a1 c1 l_0 n_1 _ (HA1.out.in_.below (by (repeat (first | with_reducible assumption | with_reducible exact Below.refl _ _ | with_reducible refine Below.drew ?_ | with_reducible refine belowDrewN ?_ _ | ((with_reducible refine Below.setCell ?_ ?_ _); rotate_left; focus (first | omega | (simp; done) | (simp; omega))) | ((with_reducible refine Below.alloc ?_ ?_ _); rotate_left; focus (first | omega | (simp; done) | (simp; omega))))))) (by omega)).mono ?_
  rintro e w2 ⟨a2, c2, rfl, hm2, hb2⟩
  obtain ⟨hc2, hf2⟩ := bcell hb2; have hz2 := hb2.size; (try simp only [World.size_alloc, World.size_setCell, World.size_drew, sizeDrewN] at hz2 hc2 hf2)
  have ha2 := M.At.of hm2
  clear hm2
  (try simp only [World.size_alloc, World.size_setCell, World.size_drew, sizeDrewN] at ha2)
  have HA2 := Lib.hid ha2; clear ha2
  go_wp2_with fail
  refine (toIntS_calls a_0 c_0 l_0 _ (HIN_0.out.below (by (repeat (first | with_reducible assumption | with_reducible exact Below.refl _ _ | with_reducible refine Below.drew ?_ | with_reducible refine belowDrewN ?_ _ | ((with_reducible refine Below.setCell ?_ ?_ _); rotate_left; focus (first | omega | (simp; done) | (simp; omega))) | ((with_reducible refine Below.alloc ?_ ?_ _); rotate_left; focus (first | omega | (simp; done) | (simp; omega))) | ((with_reducible refine Below.trans ?_ (Below.mono hb1 ?_)); rotate_left; focus (first | omega | (simp; done) | (simp; omega))) | ((with_reducible refine Below.trans ?_ (Below.mono hb2 ?_)); rotate_left; focus (first | omega | (simp; done) | (simp; omega))))))) hcnt0).mono ?_
  rintro e w3 ⟨a3, c3, rfl, hm3, hb3⟩
  obtain ⟨hc3, hf3⟩ := bcell hb3; have hz3 := hb3.size; (try simp only [World.size_alloc, World.size_setCell, World.size_drew, sizeDrewN] at hz3 hc3 hf3)
  have ha3 := M.At.of hm3
  clear hm3
  (try simp only [World.size_alloc, World.size_setCell, World.size_drew, sizeDrewN] at ha3)
  have HA3 := Lib.hid ha3; clear ha3
  go_wp2_with fail
  refine (iFlippedScope_calls a3 c3 l_0 n_1 _ (HA3.out.in_.below (by (repeat (first | with_reducible assumption | with_reducible exact Below.refl _ _ | with_reducible refine Below.drew ?_ | with_reducible refine belowDrewN ?_ _ | ((with_reducible refine Below.setCell ?_ ?_ _); rotate_left; focus (first | omega | (simp; done) | (simp; omega))) | ((with_reducible refine Below.alloc ?_ ?_ _); rotate_left; focus (first | omega | (simp; done) | (simp; omega))))))) (by omega)).mono ?_
  rintro e w4 ⟨a4, c4, rfl, hm4, hb4⟩
  obtain ⟨hc4, hf4⟩ := bcell hb4; have hz4 := hb4.size; (try simp only [World.size_alloc, World.size_setCell, World.size_drew, sizeDrewN] at hz4 hc4 hf4)
  have ha4 := M.At.of hm4
  clear hm4
  (try simp only [World.size_alloc, World.size_setCell, World.size_drew, sizeDrewN] at ha4)
  have HA4 := Lib.hid ha4; clear ha4
  go_wp2_with fail
  refine (eqIntS_same a4 c4 (flipS l_0 n_1) a2 c2 _ (HA4.out.in_.below (by (repeat (first | with_reducible assumption | with_reducible exact Below.refl _ _ | with_reducible refine Below.drew ?_ | with_reducible refine belowDrewN ?_ _ | ((with_reducible refine Below.setCell ?_ ?_ _); rotate_left; focus (first | omega | (simp; done) | (simp; omega))) | ((with_reducible refine Below.alloc ?_ ?_ _); rotate_left; focus (first | omega | (simp; done) | (simp; omega))))))) (HA2.out.in_.below (by (repeat (first | with_reducible assumption | with_reducible exact Below.refl _ _ | with_reducible refine Below.drew ?_ | with_reducible refine belowDrewN ?_ _ | ((with_reducible refine Below.setCell ?_ ?_ _); rotate_left; focus (first | omega | (simp; done) | (simp; omega))) | ((with_reducible refine Below.alloc ?_ ?_ _); rotate_left; focus (first | omega | (simp; done) | (simp; omega))) | ((with_reducible refine Below.trans ?_ (Below.mono hb3 ?_)); rotate_left; focus (first | omega | (simp; done) | (simp; omega))) | ((with_reducible refine Below.trans ?_ (Below.mono hb4 ?_)); rotate_left; focus (first | omega | (simp; done) | (simp; omega)))))))).mono ?_
  rintro e w5 ⟨rfl, hb5⟩
  obtain ⟨hc5, hf5⟩ := bcell hb5; have hz5 := hb5.size; (try simp only [World.size_alloc, World.size_setCell, World.size_drew, sizeDrewN] at hz5 hc5 hf5)
  go_wp2_with fail
  refine (toIntS_calls a_0 c_0 l_0 _ (HIN_0.out.below (by (repeat (first | with_reducible assumption | with_reducible exact Below.refl _ _ | with_reducible refine Below.drew ?_ | with_reducible refine belowDrewN ?_ _ | ((with_reducible refine Below.setCell ?_ ?_ _); rotate_left; focus (first | omega | (simp; done) | (simp; omega))) | ((with_reducible refine Below.alloc ?_ ?_ _); rotate_left; focus (first | omega | (simp; done) | (simp; omega))) | ((with_reducible refine Below.trans ?_ (Below.mono hb1 ?_)); rotate_left; focus (first | omega | (simp; done) | (simp; omega))) | ((with_reducible refine Below.trans ?_ (Below.mono hb2 ?_)); rotate_left; focus (first | omega | (simp; done) | (simp; omega))) | ((with_reducible refine Below.trans ?_ (Below.mono hb3 ?_)); rotate_left; focus (first | omega | (simp; done) | (simp; omega))) | ((with_reducible refine Below.trans ?_ (Below.mono hb4 ?_)); rotate_left; focus (first | omega | (simp; done) | (simp; omega))) | ((with_reducible refine Below.trans ?_ (Below.mono hb5 ?_)); rotate_left; focus (first | omega | (simp; done) | (simp; omega))))))) hcnt0).mono ?_
  rintro e w6 ⟨a6, c6, rfl, hm6, hb6⟩
  obtain ⟨hc6, hf6⟩ := bcell hb6; have hz6 := hb6.size; (try simp only [World.size_alloc, World.size_setCell, World.size_drew, sizeDrewN] at hz6 hc6 hf6)
  have ha6 := M.At.of hm6
  clear hm6
  (try simp only [World.size_alloc, World.size_setCell, World.size_drew, sizeDrewN] at ha6)
  have HA6 := Lib.hid ha6; clear ha6
  go_wp2_with fail
  refine (eqIntS_same a3 c3 l_0 a6 c6 _ (HA3.out.in_.below (by (repeat (first | with_reducible assumption | with_reducible exact Below.refl _ _ | with_reducible refine Below.drew ?_ | with_reducible refine belowDrewN ?_ _ | ((with_reducible refine Below.setCell ?_ ?_ _); rotate_left; focus (first | omega | (simp; done) | (simp; omega))) | ((with_reducible refine Below.alloc ?_ ?_ _); rotate_left; focus (first | omega | (simp; done) | (simp; omega))) | ((with_reducible refine Below.trans ?_ (Below.mono hb4 ?_)); rotate_left; focus (first | omega | (simp; done) | (simp; omega))) | ((with_reducible refine Below.trans ?_ (Below.mono hb5 ?_)); rotate_left; focus (first | omega | (simp; done) | (simp; omega))) | ((with_reducible refine Below.trans ?_ (Below.mono hb6 ?_)); rotate_left; focus (first | omega | (simp; done) | (simp; omega))))))) (HA6.out.in_.below (by (repeat (first | with_reducible assumption | with_reducible exact Below.refl _ _ | with_reducible refine Below.drew ?_ | with_reducible refine belowDrewN ?_ _ | ((with_reducible refine Below.setCell ?_ ?_ _); rotate_left; focus (first | omega | (simp; done) | (simp; omega))) | ((with_reducible refine Below.alloc ?_ ?_ _); rotate_left; focus (first | omega | (simp; done) | (simp; omega)))))))).mono ?_
  rintro e w7 ⟨rfl, hb7⟩
  obtain ⟨hc7, hf7⟩ := bcell hb7; have hz7 := hb7.size; (try simp only [World.size_alloc, World.size_setCell, World.size_drew, sizeDrewN] at hz7 hc7 hf7)
  go_wp2_with fail
  refine (markIntS_at a3 c3 l_0 1 _ _ _ (HA3.out.below (by (repeat (first | with_reducible assumption | with_reducible exact Below.refl _ _ | with_reducible refine Below.drew ?_ | with_reducible refine belowDrewN ?_ _ | ((with_reducible refine Below.setCell ?_ ?_ _); rotate_left; focus (first | omega | (simp; done) | (simp; omega))) | ((with_reducible refine Below.alloc ?_ ?_ _); rotate_left; focus (first | omega | (simp; done) | (simp; omega))) | ((with_reducible refine Below.trans ?_ (Below.mono hb4 ?_)); rotate_left; focus (first | omega | (simp; done) | (simp; omega))) | ((with_reducible refine Below.trans ?_ (Below.mono hb5 ?_)); rotate_left; focus (first | omega | (simp; done) | (simp; omega))) | ((with_reducible refine Below.trans ?_ (Below.mono hb6 ?_)); rotate_left; focus (first | omega | (simp; done) | (simp; omega))) | ((with_reducible refine Below.trans ?_ (Below.mono hb7 ?_)); rotate_left; focus (first | omega | (simp; done) | (simp; omega))))))) (by omega) (by first | omega | (simp; omega))).mono ?_
  rintro e w8 ⟨rfl, ham8, ho8⟩
  obtain ⟨hc8, hf8⟩ := ocell ho8; have hz8 := ho8.size
  (try simp only [World.size_alloc, World.size_setCell, World.size_drew, sizeDrewN] at hz8 hc8 hf8)
  have hb8 := ho8.below (B := w.heap.size) (by first | omega | (simp; omega)) (by first | omega | (simp; omega))
  have hpos8 : (0 : Int) ≤ (1 + ((l_0).length : Nat)) := by omega
  have ha_ := (M.At.below HA1.out (by (repeat (first | with_reducible assumption | with_reducible exact Below.refl _ _ | with_reducible refine Below.drew ?_ | with_reducible refine belowDrewN ?_ _ | ((with_reducible refine Below.setCell ?_ ?_ _); rotate_left; focus (first | omega | (simp; done) | (simp; omega))) | ((with_reducible refine Below.alloc ?_ ?_ _); rotate_left; focus (first | omega | (simp; done) | (simp; omega))) | ((with_reducible refine Below.trans ?_ (Below.mono hb2 ?_)); rotate_left; focus (first | omega | (simp; done) | (simp; omega))) | ((with_reducible refine Below.trans ?_ (Below.mono hb3 ?_)); rotate_left; focus (first | omega | (simp; done) | (simp; omega))) | ((with_reducible refine Below.trans ?_ (Below.mono hb4 ?_)); rotate_left; focus (first | omega | (simp; done) | (simp; omega))) | ((with_reducible refine Below.trans ?_ (Below.mono hb5 ?_)); rotate_left; focus (first | omega | (simp; done) | (simp; omega))) | ((with_reducible refine Below.trans ?_ (Below.mono hb6 ?_)); rotate_left; focus (first | omega | (simp; done) | (simp; omega))) | ((with_reducible refine Below.trans ?_ (Below.mono hb7 ?_)); rotate_left; focus (first | omega | (simp; done) | (simp; omega))))))).onlyIn ho8 (by omega); clear HA1; have HA1 := Lib.hid ha_; clear ha_
  have ha_ := (M.At.below HA2.out (by (repeat (first | with_reducible assumption | with_reducible exact Below.refl _ _ | with_reducible refine Below.drew ?_ | with_reducible refine belowDrewN ?_ _ | ((with_reducible refine Below.setCell ?_ ?_ _); rotate_left; focus (first | omega | (simp; done) | (simp; omega))) | ((with_reducible refine Below.alloc ?_ ?_ _); rotate_left; focus (first | omega | (simp; done) | (simp; omega))) | ((with_reducible refine Below.trans ?_ (Below.mono hb3 ?_)); rotate_left; focus (first | omega | (simp; done) | (simp; omega))) | ((with_reducible refine Below.trans ?_ (Below.mono hb4 ?_)); rotate_left; focus (first | omega | (simp; done) | (simp; omega))) | ((with_reducible refine Below.trans ?_ (Below.mono hb5 ?_)); rotate_left; focus (first | omega | (simp; done) | (simp; omega))) | ((with_reducible refine Below.trans ?_ (Below.mono hb6 ?_)); rotate_left; focus (first | omega | (simp; done) | (simp; omega))) | ((with_reducible refine Below.trans ?_ (Below.mono hb7 ?_)); rotate_left; focus (first | omega | (simp; done) | (simp; omega))))))).onlyIn ho8 (by omega); clear HA2; have HA2 := Lib.hid ha_; clear ha_
  have ha_ := (M.At.below HA4.out (by (repeat (first | with_reducible assumption | with_reducible exact Below.refl _ _ | with_reducible refine Below.drew ?_ | with_reducible refine belowDrewN ?_ _ | ((with_reducible refine Below.setCell ?_ ?_ _); rotate_left; focus (first | omega | (simp; done) | (simp; omega))) | ((with_reducible refine Below.alloc ?_ ?_ _); rotate_left; focus (first | omega | (simp; done) | (simp; omega))) | ((with_reducible refine Below.trans ?_ (Below.mono hb5 ?_)); rotate_left; focus (first | omega | (simp; done) | (simp; omega))) | ((with_reducible refine Below.trans ?_ (Below.mono hb6 ?_)); rotate_left; focus (first | omega | (simp; done) | (simp; omega))) | ((with_reducible refine Below.trans ?_ (Below.mono hb7 ?_)); rotate_left; focus (first | omega | (simp; done) | (simp; omega))))))).onlyIn ho8 (by omega); clear HA4; have HA4 := Lib.hid ha_; clear ha_
  have ha_ := (M.At.below HA6.out (by (repeat (first | with_reducible assumption | with_reducible exact Below.refl _ _ | with_reducible refine Below.drew ?_ | with_reducible refine belowDrewN ?_ _ | ((with_reducible refine Below.setCell ?_ ?_ _); rotate_left; focus (first | omega | (simp; done) | (simp; omega))) | ((with_reducible refine Below.alloc ?_ ?_ _); rotate_left; focus (first | omega | (simp; done) | (simp; omega))) | ((with_reducible refine Below.trans ?_ (Below.mono hb7 ?_)); rotate_left; focus (first | omega | (simp; done) | (simp; omega))))))).onlyIn ho8 (by omega); clear HA6; have HA6 := Lib.hid ha_; clear ha_
  clear HA3; have HA3 := Lib.hid ham8; clear ham8 ho8
  go_wp2_with fail
  refine (eqIntS_same a4 c4 (flipS l_0 n_1) a2 c2 _ (HA4.out.in_.below (by (repeat (first | with_reducible assumption | with_reducible exact Below.refl _ _ | with_reducible refine Below.drew ?_ | with_reducible refine belowDrewN ?_ _ | ((with_reducible refine Below.setCell ?_ ?_ _); rotate_left; focus (first | omega | (simp; done) | (simp; omega))) | ((with_reducible refine Below.alloc ?_ ?_ _); rotate_left; focus (first | omega | (simp; done) | (simp; omega))))))) (HA2.out.in_.below (by (repeat (first | with_reducible assumption | with_reducible exact Below.refl _ _ | with_reducible refine Below.drew ?_ | with_reducible refine belowDrewN ?_ _ | ((with_reducible refine Below.setCell ?_ ?_ _); rotate_left; focus (first | omega | (simp; done) | (simp; omega))) | ((with_reducible refine Below.alloc ?_ ?_ _); rotate_left; focus (first | omega | (simp; done) | (simp; omega)))))))).mono ?_
  rintro e w9 ⟨rfl, hb9⟩
  obtain ⟨hc9, hf9⟩ := bcell hb9; have hz9 := hb9.size; (try simp only [World.size_alloc, World.size_setCell, World.size_drew, sizeDrewN] at hz9 hc9 hf9)
  go_wp2_with fail
  refine (markIntS_at a4 c4 (flipS l_0 n_1) 1 _ _ _ (HA4.out.below (by (repeat (first | with_reducible assumption | with_reducible exact Below.refl _ _ | with_reducible refine Below.drew ?_ | with_reducible refine belowDrewN ?_ _ | ((with_reducible refine Below.setCell ?_ ?_ _); rotate_left; focus (first | omega | (simp; done) | (simp; omega))) | ((with_reducible refine Below.alloc ?_ ?_ _); rotate_left; focus (first | omega | (simp; done) | (simp; omega))) | ((with_reducible refine Below.trans ?_ (Below.mono hb9 ?_)); rotate_left; focus (first | omega | (simp; done) | (simp; omega))))))) (by omega) (by first | omega | (simp; omega))).mono ?_
  rintro e w10 ⟨rfl, ham10, ho10⟩
  obtain ⟨hc10, hf10⟩ := ocell ho10; have hz10 := ho10.size
  (try simp only [World.size_alloc, World.size_setCell, World.size_drew, sizeDrewN] at hz10 hc10 hf10)
  have hb10 := ho10.below (B := w.heap.size) (by first | omega | (simp; omega)) (by first | omega | (simp; omega))
  have hpos10 : (0 : Int) ≤ (1 + (((flipS l_0 n_1)).length : Nat)) := by omega
  have ha_ := (M.At.below HA1.out (by (repeat (first | with_reducible assumption | with_reducible exact Below.refl _ _ | with_reducible refine Below.drew ?_ | with_reducible refine belowDrewN ?_ _ | ((with_reducible refine Below.setCell ?_ ?_ _); rotate_left; focus (first | omega | (simp; done) | (simp; omega))) | ((with_reducible refine Below.alloc ?_ ?_ _); rotate_left; focus (first | omega | (simp; done) | (simp; omega))) | ((with_reducible refine Below.trans ?_ (Below.mono hb9 ?_)); rotate_left; focus (first | omega | (simp; done) | (simp; omega))))))).onlyIn ho10 (by omega); clear HA1; have HA1 := Lib.hid ha_; clear ha_
  have ha_ := (M.At.below HA2.out (by (repeat (first | with_reducible assumption | with_reducible exact Below.refl _ _ | with_reducible refine Below.drew ?_ | with_reducible refine belowDrewN ?_ _ | ((with_reducible refine Below.setCell ?_ ?_ _); rotate_left; focus (first | omega | (simp; done) | (simp; omega))) | ((with_reducible refine Below.alloc ?_ ?_ _); rotate_left; focus (first | omega | (simp; done) | (simp; omega))) | ((with_reducible refine Below.trans ?_ (Below.mono hb9 ?_)); rotate_left; focus (first | omega | (simp; done) | (simp; omega))))))).onlyIn ho10 (by omega); clear HA2; have HA2 := Lib.hid ha_; clear ha_
  have ha_ := (M.At.below HA3.out (by (repeat (first | with_reducible assumption | with_reducible exact Below.refl _ _ | with_reducible refine Below.drew ?_ | with_reducible refine belowDrewN ?_ _ | ((with_reducible refine Below.setCell ?_ ?_ _); rotate_left; focus (first | omega | (simp; done) | (simp; omega))) | ((with_reducible refine Below.alloc ?_ ?_ _); rotate_left; focus (first | omega | (simp; done) | (simp; omega))) | ((with_reducible refine Below.trans ?_ (Below.mono hb9 ?_)); rotate_left; focus (first | omega | (simp; done) | (simp; omega))))))).onlyIn ho10 (by omega); clear HA3; have HA3 := Lib.hid ha_; clear ha_
  have ha_ := (M.At.below HA6.out (by (repeat (first | with_reducible assumption | with_reducible exact Below.refl _ _ | with_reducible refine Below.drew ?_ | with_reducible refine belowDrewN ?_ _ | ((with_reducible refine Below.setCell ?_ ?_ _); rotate_left; focus (first | omega | (simp; done) | (simp; omega))) | ((with_reducible refine Below.alloc ?_ ?_ _); rotate_left; focus (first | omega | (simp; done) | (simp; omega))) | ((with_reducible refine Below.trans ?_ (Below.mono hb9 ?_)); rotate_left; focus (first | omega | (simp; done) | (simp; omega))))))).onlyIn ho10 (by omega); clear HA6; have HA6 := Lib.hid ha_; clear ha_
  clear HA4; have HA4 := Lib.hid ham10; clear ham10 ho10
  go_wp2_with fail
  refine (heldIntS_calls a4 c4 ((flipS l_0 n_1)).length 1 _ (HA4.out.in_.below (by (repeat (first | with_reducible assumption | with_reducible exact Below.refl _ _ | with_reducible refine Below.drew ?_ | with_reducible refine belowDrewN ?_ _ | ((with_reducible refine Below.setCell ?_ ?_ _); rotate_left; focus (first | omega | (simp; done) | (simp; omega))) | ((with_reducible refine Below.alloc ?_ ?_ _); rotate_left; focus (first | omega | (simp; done) | (simp; omega))))))) (by omega) (by first | omega | (simp; omega))).mono ?_
  rintro e w11 ⟨rfl, hb11⟩
  obtain ⟨hc11, hf11⟩ := bcell hb11; have hz11 := hb11.size; (try simp only [World.size_alloc, World.size_setCell, World.size_drew, sizeDrewN] at hz11 hc11 hf11)
  go_wp2_with fail
  refine (toIntS_calls a_0 c_0 l_0 _ (HIN_0.out.below (by (repeat (first | with_reducible assumption | with_reducible exact Below.refl _ _ | with_reducible refine Below.drew ?_ | with_reducible refine belowDrewN ?_ _ | ((with_reducible refine Below.setCell ?_ ?_ _); rotate_left; focus (first | omega | (simp; done) | (simp; omega))) | ((with_reducible refine Below.alloc ?_ ?_ _); rotate_left; focus (first | omega | (simp; done) | (simp; omega))) | ((with_reducible refine Below.trans ?_ (Below.mono hb1 ?_)); rotate_left; focus (first | omega | (simp; done) | (simp; omega))) | ((with_reducible refine Below.trans ?_ (Below.mono hb2 ?_)); rotate_left; focus (first | omega | (simp; done) | (simp; omega))) | ((with_reducible refine Below.trans ?_ (Below.mono hb3 ?_)); rotate_left; focus (first | omega | (simp; done) | (simp; omega))) | ((with_reducible refine Below.trans ?_ (Below.mono hb4 ?_)); rotate_left; focus (first | omega | (simp; done) | (simp; omega))) | ((with_reducible refine Below.trans ?_ (Below.mono hb5 ?_)); rotate_left; focus (first | omega | (simp; done) | (simp; omega))) | ((with_reducible refine Below.trans ?_ (Below.mono hb6 ?_)); rotate_left; focus (first | omega | (simp; done) | (simp; omega))) | ((with_reducible refine Below.trans ?_ (Below.mono hb7 ?_)); rotate_left; focus (first | omega | (simp; done) | (simp; omega))) | ((with_reducible refine Below.trans ?_ (Below.mono hb8 ?_)); rotate_left; focus (first | omega | (simp; done) | (simp; omega))) | ((with_reducible refine Below.trans ?_ (Below.mono hb9 ?_)); rotate_left; focus (first | omega | (simp; done) | (simp; omega))) | ((with_reducible refine Below.trans ?_ (Below.mono hb10 ?_)); rotate_left; focus (first | omega | (simp; done) | (simp; omega))) | ((with_reducible refine Below.trans ?_ (Below.mono hb11 ?_)); rotate_left; focus (first | omega | (simp; done) | (simp; omega))))))) hcnt0).mono ?_
  rintro e w12 ⟨a12, c12, rfl, hm12, hb12⟩
  obtain ⟨hc12, hf12⟩ := bcell hb12; have hz12 := hb12.size; (try simp only [World.size_alloc, World.size_setCell, World.size_drew, sizeDrewN] at hz12 hc12 hf12)
  have ha12 := M.At.of hm12
  clear hm12
  (try simp only [World.size_alloc, World.size_setCell, World.size_drew, sizeDrewN] at ha12)
  have HA12 := Lib.hid ha12; clear ha12
  go_wp2_with fail
  refine (iFlippedScope_calls a12 c12 l_0 n_1 _ (HA12.out.in_.below (by (repeat (first | with_reducible assumption | with_reducible exact Below.refl _ _ | with_reducible refine Below.drew ?_ | with_reducible refine belowDrewN ?_ _ | ((with_reducible refine Below.setCell ?_ ?_ _); rotate_left; focus (first | omega | (simp; done) | (simp; omega))) | ((with_reducible refine Below.alloc ?_ ?_ _); rotate_left; focus (first | omega | (simp; done) | (simp; omega))))))) (by omega)).mono ?_
  rintro e w13 ⟨a13, c13, rfl, hm13, hb13⟩
  obtain ⟨hc13, hf13⟩ := bcell hb13; have hz13 := hb13.size; (try simp only [World.size_alloc, World.size_setCell, World.size_drew, sizeDrewN] at hz13 hc13 hf13)
  have ha13 := M.At.of hm13
  clear hm13
  (try simp only [World.size_alloc, World.size_setCell, World.size_drew, sizeDrewN] at ha13)
  have HA13 := Lib.hid ha13; clear ha13
  go_wp2_with fail
  refine (eqIntS_same a13 c13 (flipS l_0 n_1) a2 c2 _ (HA13.out.in_.below (by (repeat (first | with_reducible assumption | with_reducible exact Below.refl _ _ | with_reducible refine Below.drew ?_ | with_reducible refine belowDrewN ?_ _ | ((with_reducible refine Below.setCell ?_ ?_ _); rotate_left; focus (first | omega | (simp; done) | (simp; omega))) | ((with_reducible refine Below.alloc ?_ ?_ _); rotate_left; focus (first | omega | (simp; done) | (simp; omega))))))) (HA2.out.in_.below (by (repeat (first | with_reducible assumption | with_reducible exact Below.refl _ _ | with_reducible refine Below.drew ?_ | with_reducible refine belowDrewN ?_ _ | ((with_reducible refine Below.setCell ?_ ?_ _); rotate_left; focus (first | omega | (simp; done) | (simp; omega))) | ((with_reducible refine Below.alloc ?_ ?_ _); rotate_left; focus (first | omega | (simp; done) | (simp; omega))) | ((with_reducible refine Below.trans ?_ (Below.mono hb11 ?_)); rotate_left; focus (first | omega | (simp; done) | (simp; omega))) | ((with_reducible refine Below.trans ?_ (Below.mono hb12 ?_)); rotate_left; focus (first | omega | (simp; done) | (simp; omega))) | ((with_reducible refine Below.trans ?_ (Below.mono hb13 ?_)); rotate_left; focus (first | omega | (simp; done) | (simp; omega)))))))).mono ?_
  rintro e w14 ⟨rfl, hb14⟩
  obtain ⟨hc14, hf14⟩ := bcell hb14; have hz14 := hb14.size; (try simp only [World.size_alloc, World.size_setCell, World.size_drew, sizeDrewN] at hz14 hc14 hf14)
  go_wp2_with fail
  refine (heldIntS_calls a4 c4 ((flipS l_0 n_1)).length 1 _ (HA4.out.in_.below (by (repeat (first | with_reducible assumption | with_reducible exact Below.refl _ _ | with_reducible refine Below.drew ?_ | with_reducible refine belowDrewN ?_ _ | ((with_reducible refine Below.setCell ?_ ?_ _); rotate_left; focus (first | omega | (simp; done) | (simp; omega))) | ((with_reducible refine Below.alloc ?_ ?_ _); rotate_left; focus (first | omega | (simp; done) | (simp; omega))) | ((with_reducible refine Below.trans ?_ (Below.mono hb11 ?_)); rotate_left; focus (first | omega | (simp; done) | (simp; omega))) | ((with_reducible refine Below.trans ?_ (Below.mono hb12 ?_)); rotate_left; focus (first | omega | (simp; done) | (simp; omega))) | ((with_reducible refine Below.trans ?_ (Below.mono hb13 ?_)); rotate_left; focus (first | omega | (simp; done) | (simp; omega))) | ((with_reducible refine Below.trans ?_ (Below.mono hb14 ?_)); rotate_left; focus (first | omega | (simp; done) | (simp; omega))))))) (by omega) (by first | omega | (simp; omega))).mono ?_
  rintro e w15 ⟨rfl, hb15⟩
  obtain ⟨hc15, hf15⟩ := bcell hb15; have hz15 := hb15.size; (try simp only [World.size_alloc, World.size_setCell, World.size_drew, sizeDrewN] at hz15 hc15 hf15)
  go_wp2_with fail
  go_ret
  exact ⟨rfl, by (repeat (first | with_reducible assumption | with_reducible exact Below.refl _ _ | with_reducible refine Below.drew ?_ | with_reducible refine belowDrewN ?_ _ | ((with_reducible refine Below.setCell ?_ ?_ _); rotate_left; focus (first | omega | (simp; done) | (simp; omega))) | ((with_reducible refine Below.alloc ?_ ?_ _); rotate_left; focus (first | omega | (simp; done) | (simp; omega))) | ((with_reducible refine Below.trans ?_ (Below.mono hb1 ?_)); rotate_left; focus (first | omega | (simp; done) | (simp; omega))) | ((with_reducible refine Below.trans ?_ (Below.mono hb2 ?_)); rotate_left; focus (first | omega | (simp; done) | (simp; omega))) | ((with_reducible refine Below.trans ?_ (Below.mono hb3 ?_)); rotate_left; focus (first | omega | (simp; done) | (simp; omega))) | ((with_reducible refine Below.trans ?_ (Below.mono hb4 ?_)); rotate_left; focus (first | omega | (simp; done) | (simp; omega))) | ((with_reducible refine Below.trans ?_ (Below.mono hb5 ?_)); rotate_left; focus (first | omega | (simp; done) | (simp; omega))) | ((with_reducible refine Below.trans ?_ (Below.mono hb6 ?_)); rotate_left; focus (first | omega | (simp; done) | (simp; omega))) | ((with_reducible refine Below.trans ?_ (Below.mono hb7 ?_)); rotate_left; focus (first | omega | (simp; done) | (simp; omega))) | ((with_reducible refine Below.trans ?_ (Below.mono hb8 ?_)); rotate_left; focus (first | omega | (simp; done) | (simp; omega))) | ((with_reducible refine Below.trans ?_ (Below.mono hb9 ?_)); rotate_left; focus (first | omega | (simp; done) | (simp; omega))) | ((with_reducible refine Below.trans ?_ (Below.mono hb10 ?_)); rotate_left; focus (first | omega | (simp; done) | (simp; omega))) | ((with_reducible refine Below.trans ?_ (Below.mono hb11 ?_)); rotate_left; focus (first | omega | (simp; done) | (simp; omega))) | ((with_reducible refine Below.trans ?_ (Below.mono hb12 ?_)); rotate_left; focus (first | omega | (simp; done) | (simp; omega))) | ((with_reducible refine Below.trans ?_ (Below.mono hb13 ?_)); rotate_left; focus (first | omega | (simp; done) | (simp; omega))) | ((with_reducible refine Below.trans ?_ (Below.mono hb14 ?_)); rotate_left; focus (first | omega | (simp; done) | (simp; omega))) | ((with_reducible refine Below.trans ?_ (Below.mono hb15 ?_)); rotate_left; focus (first | omega | (simp; done) | (simp; omega)))))⟩

set_option maxRecDepth 100000 in
theorem fnExactFlippedScope_lifted (os : Os) (started : os.Started) (H : Type) (enc : TypeId × Value → H) :
    ReturnsInHanded {} Try.checked os 4 .any (Rows.fnExactFlippedScopeSpec.pre6 enc Try.prog Try.f4 Rows.fnExactFlippedScopeRow.domain false) (Rows.fnExactFlippedScopeSpec.post enc Try.prog Try.f4 false true false false) := by
  refine returnsInHanded_of_change (C := Try.checked) own_ started (by kernel_rfl) Try.func4
    (ChangeSpec.witness6 (enc := enc) (C := Try.checked) false ⟨#[], #[.slice none 0 0, .int .i64 0], []⟩ 8 (by kernel_rfl) (by kernel_rfl) (by kernel_rfl) (by kernel_rfl)) ?_
  intro W base args ds gs before hval0 hW hcnd _
  have hval : ∀ (j : Nat) t v, Try.f4.params[j]? = some t → args[j]? = some v → Value.okWide Try.prog W .any base t v := hval0
  have hW' := hW
  obtain ⟨p, q, hA0, hV, rfl, hfz, hnd⟩ := hW
  have hA : DataW.TrodAll enc Try.prog W 0 (fun _ => true) true Try.f4.params.toList args.toList ds p := hA0
  rw [Try.params4] at hA hval
  obtain ⟨v0, vs0, d0, ds0_, p0, q0, hargs, rfl, rfl, h0, r0⟩ := trodAll_cons hA
  obtain ⟨v1, vs1, d1, ds1_, p1, q1, rfl, rfl, rfl, h1, r1⟩ := trodAll_cons r0
  obtain ⟨rfl, rfl, rfl⟩ := trodAll_nil r1
  obtain rfl : args = #[v0, v1] := by cases args; simp_all
  obtain ⟨rfl, rfl⟩ := trodVars_none hV
  have k0_ := h0
  have lt0 : ∀ x ∈ p0, x.block < W.heap.size := by obtain ⟨m, hm⟩ := k0_; exact DataW.trod_lt m _ _ _ hm
  have k1_ := h1
  have lt1 : ∀ x ∈ p1, x.block < W.heap.size := by obtain ⟨m, hm⟩ := k1_; exact DataW.trod_lt m _ _ _ hm
  obtain ⟨a0, c0, l0, rfl, hin0, wl0⟩ := arg_ints (hval 0 22 v0 rfl rfl) h0
  obtain ⟨n1, rfl, wn1⟩ := arg_int (hval 1 3 v1 rfl rfl) h1
  clear hA0 hval0
  refine (fnExactFlippedScope_walk a0 c0 l0 n1 W hin0 wl0 wn1).mono fun e W' ⟨he, bel⟩ => ?_
  subst he
  exact ⟨_, rfl, _, _, _, [], _, [], hW', trodAll_mk1 (shut_bool Try.underlying4 _), (trodAll_cons_mk (Below.trod laidOut_ (by kernel_rfl) (of_decide_eq_true (by kernel_rfl)) k0_ bel lt0) (trodAll_cons_mk (Below.trod laidOut_ (by kernel_rfl) (of_decide_eq_true (by kernel_rfl)) k1_ bel lt1) trodAll_mk0)), rfl, bel.frame _, fun h => by cases h⟩

theorem fnExactFlippedScope_facts : joinedFacts Try.prog 4 Try.f4 Rows.fnExactFlippedScopeSpec Rows.fnExactFlippedScopeRow = true := by
  unfold joinedFacts
  repeat' with_reducible refine and_mk ?_ ?_
  all_goals first | with_reducible exact mayEnter_ | (rw [lifts_]; kernel_rfl) | (rw [make_]; kernel_rfl) | (as_aux_lemma => kernel_rfl)

/-- FnExactFlippedScope: for every input the call returns true, and each argument reads afterwards as before. No condition. -/
theorem fnExactFlippedScope_holds : Rows.FnExactFlippedScopeSaid :=
  OpenClaim.holds_of_wide 4 Try.f4 rfl rfl rfl rfl rfl rfl rfl ⟨rfl, rfl, rfl, rfl, rfl⟩ rfl rfl rfl rfl rfl (by as_aux_lemma => kernel_rfl) Try.func4 fnExactFlippedScope_facts
    (of_decide_eq_true (by kernel_rfl)) (by unfold Func.isWrapper; first | (rw [if_pos (by decide +kernel)]; kernel_rfl) | (rw [if_neg (by decide +kernel)]; exact ⟨rfl, rfl⟩))
    (fun os started H enc _ => fnExactFlippedScope_lifted os started H enc)
#print axioms fnExactFlippedScope_holds

end Go.Proofs.Ytdfekdeojahmmab
