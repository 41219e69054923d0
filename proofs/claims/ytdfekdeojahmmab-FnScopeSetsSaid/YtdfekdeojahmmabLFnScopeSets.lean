/-
  FnScopeSets: for every input the call returns true, and each argument reads afterwards as it read before. No condition.
-/
import Derived.Test.YtdfekdeojahmmabRows
import Derived.Test.YtdfekdeojahmmabOpen
import Derived.Test.YtdfekdeojahmmabHead
import Derived.Test.YtdfekdeojahmmabOpen3
import Derived.Test.YtdfekdeojahmmabQ3
import Derived.Test.YtdfekdeojahmmabQ4
import Derived.Test.YtdfekdeojahmmabS1
import Derived.Test.YtdfekdeojahmmabY6
set_option linter.unusedVariables false
set_option linter.unusedSimpArgs false
set_option maxRecDepth 100000
namespace Go.Proofs.Ytdfekdeojahmmab
open Go.ChangeShapes Go.WideShapes Go.ChangeAt Go.RowKit

theorem own_ : ownKnob Try.prog.godebug = none := by kernel_rfl
theorem laidOut_ : laidOutB Try.prog = true := by kernel_rfl

theorem fnScopeSets_walk (a : Option Addr) (c : Nat) (l : List Int) (w : World) (hin : (M.sl a c 1 5 (u8M l)).In w) (hu : ∀ n ∈ l, 0 ≤ n ∧ n ≤ 255) :
    Calls Try.prog 7 #[.slice a l.length c] w (Ret (.bool true) w) := by
  have hlc := U8s.len hin
  by_cases hbig : 1048576 < l.length
  · have HIN := Lib.hid hin; clear hin; have HU := Lib.hid hu; clear hu
    go_enter Try.func7, Try.ntmps7
    go_wp2_with fail
    go_ret
    exact ⟨rfl, by (repeat (first | with_reducible assumption | with_reducible exact Below.refl _ _ | with_reducible refine Below.drew ?_ | with_reducible refine belowDrewN ?_ _ | ((with_reducible refine Below.setCell ?_ ?_ _); rotate_left; focus (first | omega | (simp; done) | (simp; omega))) | ((with_reducible refine Below.alloc ?_ ?_ _); rotate_left; focus (first | omega | (simp; done) | (simp; omega)))))⟩
  · have HIN := Lib.hid hin; clear hin; have HU := Lib.hid hu; clear hu
    go_enter Try.func7, Try.ntmps7
    go_wp2_with fail
    refine (drawWithScope_calls a c l _ HIN.out HU.out (by omega)).mono ?_
    rintro e w1 ⟨L, al, cl, n, rfl, hL, hn0, hn9, hm, hb1⟩
    have hz1 := hb1.size
    have hin1 := hm.in_
    have hlen := Ints.len hin1
    have HIN1 := Lib.hid hin1; clear hin1; have HM := Lib.hid hm; clear hm
    cases hs : ssB L with
    | false =>
      have e1 : withS L n = L := by simp [withS, hs]
      have e2 : flipS L n = L := by simp [flipS, hs]
      go_wp2_with fail
      refine (sIsScopeSet_calls al cl L _ HIN1.out).mono ?_
      rintro e w2 ⟨rfl, hb2⟩
      have hz2 := hb2.size
      go_wp2_with fail
      refine (iWithScope_calls al cl L n _ (HIN1.out.below (by (repeat (first | with_reducible assumption | with_reducible exact Below.refl _ _ | with_reducible refine Below.drew ?_ | with_reducible refine belowDrewN ?_ _ | ((with_reducible refine Below.setCell ?_ ?_ _); rotate_left; focus (first | omega | (simp; done) | (simp; omega))) | ((with_reducible refine Below.alloc ?_ ?_ _); rotate_left; focus (first | omega | (simp; done) | (simp; omega))) | ((with_reducible refine Below.trans ?_ (Below.mono hb2 ?_)); rotate_left; focus (first | omega | (simp; done) | (simp; omega))))))) (by omega)).mono ?_
      rintro e w3 ⟨a3, c3, rfl, hm3, hb3⟩
      rw [e1] at hm3 ⊢
      have hz3 := hb3.size
      have hin3 := hm3.in_
      have HM3 := Lib.hid hm3; clear hm3; have HIN3 := Lib.hid hin3; clear hin3
      go_wp2_with fail
      refine (lawInts_calls a3 c3 L al cl L _ HIN3.out (HIN1.out.below (by (repeat (first | with_reducible assumption | with_reducible exact Below.refl _ _ | with_reducible refine Below.drew ?_ | with_reducible refine belowDrewN ?_ _ | ((with_reducible refine Below.setCell ?_ ?_ _); rotate_left; focus (first | omega | (simp; done) | (simp; omega))) | ((with_reducible refine Below.alloc ?_ ?_ _); rotate_left; focus (first | omega | (simp; done) | (simp; omega))) | ((with_reducible refine Below.trans ?_ (Below.mono hb2 ?_)); rotate_left; focus (first | omega | (simp; done) | (simp; omega))) | ((with_reducible refine Below.trans ?_ (Below.mono hb3 ?_)); rotate_left; focus (first | omega | (simp; done) | (simp; omega)))))))).mono ?_
      rw [(eqL_iff L L).2 rfl]
      rintro e w4 ⟨rfl, hb4⟩
      have hz4 := hb4.size
      go_wp2_with fail
      refine (iFlippedScope_calls al cl L n _ (HIN1.out.below (by (repeat (first | with_reducible assumption | with_reducible exact Below.refl _ _ | with_reducible refine Below.drew ?_ | with_reducible refine belowDrewN ?_ _ | ((with_reducible refine Below.setCell ?_ ?_ _); rotate_left; focus (first | omega | (simp; done) | (simp; omega))) | ((with_reducible refine Below.alloc ?_ ?_ _); rotate_left; focus (first | omega | (simp; done) | (simp; omega))) | ((with_reducible refine Below.trans ?_ (Below.mono hb2 ?_)); rotate_left; focus (first | omega | (simp; done) | (simp; omega))) | ((with_reducible refine Below.trans ?_ (Below.mono hb3 ?_)); rotate_left; focus (first | omega | (simp; done) | (simp; omega))) | ((with_reducible refine Below.trans ?_ (Below.mono hb4 ?_)); rotate_left; focus (first | omega | (simp; done) | (simp; omega))))))) (by omega)).mono ?_
      rintro e w5 ⟨a5, c5, rfl, hm5, hb5⟩
      rw [e2] at hm5 ⊢
      have hz5 := hb5.size
      have hin5 := hm5.in_
      have HM5 := Lib.hid hm5; clear hm5; have HIN5 := Lib.hid hin5; clear hin5
      go_wp2_with fail
      refine (lawInts_calls a5 c5 L al cl L _ HIN5.out (HIN1.out.below (by (repeat (first | with_reducible assumption | with_reducible exact Below.refl _ _ | with_reducible refine Below.drew ?_ | with_reducible refine belowDrewN ?_ _ | ((with_reducible refine Below.setCell ?_ ?_ _); rotate_left; focus (first | omega | (simp; done) | (simp; omega))) | ((with_reducible refine Below.alloc ?_ ?_ _); rotate_left; focus (first | omega | (simp; done) | (simp; omega))) | ((with_reducible refine Below.trans ?_ (Below.mono hb2 ?_)); rotate_left; focus (first | omega | (simp; done) | (simp; omega))) | ((with_reducible refine Below.trans ?_ (Below.mono hb3 ?_)); rotate_left; focus (first | omega | (simp; done) | (simp; omega))) | ((with_reducible refine Below.trans ?_ (Below.mono hb4 ?_)); rotate_left; focus (first | omega | (simp; done) | (simp; omega))) | ((with_reducible refine Below.trans ?_ (Below.mono hb5 ?_)); rotate_left; focus (first | omega | (simp; done) | (simp; omega)))))))).mono ?_
      rw [(eqL_iff L L).2 rfl]
      rintro e w6 ⟨rfl, hb6⟩
      go_wp2_with fail
      go_ret
      exact ⟨rfl, by (repeat (first | with_reducible assumption | with_reducible exact Below.refl _ _ | with_reducible refine Below.drew ?_ | with_reducible refine belowDrewN ?_ _ | ((with_reducible refine Below.setCell ?_ ?_ _); rotate_left; focus (first | omega | (simp; done) | (simp; omega))) | ((with_reducible refine Below.alloc ?_ ?_ _); rotate_left; focus (first | omega | (simp; done) | (simp; omega))) | ((with_reducible refine Below.trans ?_ (Below.mono hb1 ?_)); rotate_left; focus (first | omega | (simp; done) | (simp; omega))) | ((with_reducible refine Below.trans ?_ (Below.mono hb2 ?_)); rotate_left; focus (first | omega | (simp; done) | (simp; omega))) | ((with_reducible refine Below.trans ?_ (Below.mono hb3 ?_)); rotate_left; focus (first | omega | (simp; done) | (simp; omega))) | ((with_reducible refine Below.trans ?_ (Below.mono hb4 ?_)); rotate_left; focus (first | omega | (simp; done) | (simp; omega))) | ((with_reducible refine Below.trans ?_ (Below.mono hb5 ?_)); rotate_left; focus (first | omega | (simp; done) | (simp; omega))) | ((with_reducible refine Below.trans ?_ (Below.mono hb6 ?_)); rotate_left; focus (first | omega | (simp; done) | (simp; omega)))))⟩
    | true =>
      by_cases hk : kindS n = 0
      · have e1 : withS L n = L := by simp [withS, hk]
        have e2 : flipS L n = L := by simp [flipS, hk]
        have hk' : (kindS n == 0) = true := by simp [hk]
        have HK := Lib.hid hk; clear hk
        go_wp2_with fail
        refine (sIsScopeSet_calls al cl L _ HIN1.out).mono ?_
        rintro e w2 ⟨rfl, hb2⟩
        have hz2 := hb2.size
        go_wp2_with fail
        refine (sKindOfScope_calls n _).mono ?_
        rintro e w2' ⟨rfl, hb2'⟩
        have hz2' := hb2'.size
        go_wp2_with fail
        refine (iWithScope_calls al cl L n _ (HIN1.out.below (by (repeat (first | with_reducible assumption | with_reducible exact Below.refl _ _ | with_reducible refine Below.drew ?_ | with_reducible refine belowDrewN ?_ _ | ((with_reducible refine Below.setCell ?_ ?_ _); rotate_left; focus (first | omega | (simp; done) | (simp; omega))) | ((with_reducible refine Below.alloc ?_ ?_ _); rotate_left; focus (first | omega | (simp; done) | (simp; omega))) | ((with_reducible refine Below.trans ?_ (Below.mono hb2 ?_)); rotate_left; focus (first | omega | (simp; done) | (simp; omega))) | ((with_reducible refine Below.trans ?_ (Below.mono hb2' ?_)); rotate_left; focus (first | omega | (simp; done) | (simp; omega))))))) (by omega)).mono ?_
        rintro e w3 ⟨a3, c3, rfl, hm3, hb3⟩
        rw [e1] at hm3 ⊢
        have hz3 := hb3.size
        have hin3 := hm3.in_
        have HM3 := Lib.hid hm3; clear hm3; have HIN3 := Lib.hid hin3; clear hin3
        go_wp2_with fail
        refine (lawInts_calls a3 c3 L al cl L _ HIN3.out (HIN1.out.below (by (repeat (first | with_reducible assumption | with_reducible exact Below.refl _ _ | with_reducible refine Below.drew ?_ | with_reducible refine belowDrewN ?_ _ | ((with_reducible refine Below.setCell ?_ ?_ _); rotate_left; focus (first | omega | (simp; done) | (simp; omega))) | ((with_reducible refine Below.alloc ?_ ?_ _); rotate_left; focus (first | omega | (simp; done) | (simp; omega))) | ((with_reducible refine Below.trans ?_ (Below.mono hb2 ?_)); rotate_left; focus (first | omega | (simp; done) | (simp; omega))) | ((with_reducible refine Below.trans ?_ (Below.mono hb2' ?_)); rotate_left; focus (first | omega | (simp; done) | (simp; omega))) | ((with_reducible refine Below.trans ?_ (Below.mono hb3 ?_)); rotate_left; focus (first | omega | (simp; done) | (simp; omega)))))))).mono ?_
        rw [(eqL_iff L L).2 rfl]
        rintro e w4 ⟨rfl, hb4⟩
        have hz4 := hb4.size
        go_wp2_with fail
        refine (iFlippedScope_calls al cl L n _ (HIN1.out.below (by (repeat (first | with_reducible assumption | with_reducible exact Below.refl _ _ | with_reducible refine Below.drew ?_ | with_reducible refine belowDrewN ?_ _ | ((with_reducible refine Below.setCell ?_ ?_ _); rotate_left; focus (first | omega | (simp; done) | (simp; omega))) | ((with_reducible refine Below.alloc ?_ ?_ _); rotate_left; focus (first | omega | (simp; done) | (simp; omega))) | ((with_reducible refine Below.trans ?_ (Below.mono hb2 ?_)); rotate_left; focus (first | omega | (simp; done) | (simp; omega))) | ((with_reducible refine Below.trans ?_ (Below.mono hb2' ?_)); rotate_left; focus (first | omega | (simp; done) | (simp; omega))) | ((with_reducible refine Below.trans ?_ (Below.mono hb3 ?_)); rotate_left; focus (first | omega | (simp; done) | (simp; omega))) | ((with_reducible refine Below.trans ?_ (Below.mono hb4 ?_)); rotate_left; focus (first | omega | (simp; done) | (simp; omega))))))) (by omega)).mono ?_
        rintro e w5 ⟨a5, c5, rfl, hm5, hb5⟩
        rw [e2] at hm5 ⊢
        have hz5 := hb5.size
        have hin5 := hm5.in_
        have HM5 := Lib.hid hm5; clear hm5; have HIN5 := Lib.hid hin5; clear hin5
        go_wp2_with fail
        refine (lawInts_calls a5 c5 L al cl L _ HIN5.out (HIN1.out.below (by (repeat (first | with_reducible assumption | with_reducible exact Below.refl _ _ | with_reducible refine Below.drew ?_ | with_reducible refine belowDrewN ?_ _ | ((with_reducible refine Below.setCell ?_ ?_ _); rotate_left; focus (first | omega | (simp; done) | (simp; omega))) | ((with_reducible refine Below.alloc ?_ ?_ _); rotate_left; focus (first | omega | (simp; done) | (simp; omega))) | ((with_reducible refine Below.trans ?_ (Below.mono hb2 ?_)); rotate_left; focus (first | omega | (simp; done) | (simp; omega))) | ((with_reducible refine Below.trans ?_ (Below.mono hb2' ?_)); rotate_left; focus (first | omega | (simp; done) | (simp; omega))) | ((with_reducible refine Below.trans ?_ (Below.mono hb3 ?_)); rotate_left; focus (first | omega | (simp; done) | (simp; omega))) | ((with_reducible refine Below.trans ?_ (Below.mono hb4 ?_)); rotate_left; focus (first | omega | (simp; done) | (simp; omega))) | ((with_reducible refine Below.trans ?_ (Below.mono hb5 ?_)); rotate_left; focus (first | omega | (simp; done) | (simp; omega)))))))).mono ?_
        rw [(eqL_iff L L).2 rfl]
        rintro e w6 ⟨rfl, hb6⟩
        go_wp2_with fail
        go_ret
        exact ⟨rfl, by (repeat (first | with_reducible assumption | with_reducible exact Below.refl _ _ | with_reducible refine Below.drew ?_ | with_reducible refine belowDrewN ?_ _ | ((with_reducible refine Below.setCell ?_ ?_ _); rotate_left; focus (first | omega | (simp; done) | (simp; omega))) | ((with_reducible refine Below.alloc ?_ ?_ _); rotate_left; focus (first | omega | (simp; done) | (simp; omega))) | ((with_reducible refine Below.trans ?_ (Below.mono hb1 ?_)); rotate_left; focus (first | omega | (simp; done) | (simp; omega))) | ((with_reducible refine Below.trans ?_ (Below.mono hb2 ?_)); rotate_left; focus (first | omega | (simp; done) | (simp; omega))) | ((with_reducible refine Below.trans ?_ (Below.mono hb2' ?_)); rotate_left; focus (first | omega | (simp; done) | (simp; omega))) | ((with_reducible refine Below.trans ?_ (Below.mono hb3 ?_)); rotate_left; focus (first | omega | (simp; done) | (simp; omega))) | ((with_reducible refine Below.trans ?_ (Below.mono hb4 ?_)); rotate_left; focus (first | omega | (simp; done) | (simp; omega))) | ((with_reducible refine Below.trans ?_ (Below.mono hb5 ?_)); rotate_left; focus (first | omega | (simp; done) | (simp; omega))) | ((with_reducible refine Below.trans ?_ (Below.mono hb6 ?_)); rotate_left; focus (first | omega | (simp; done) | (simp; omega)))))⟩
      · have hk' : (kindS n == 0) = false := by simp [hk]
        have hasc : Asc L := (ssB_iff L).1 hs
        obtain ⟨X, hX⟩ : ∃ X, X = put n L := ⟨_, rfl⟩
        obtain ⟨Y, hY⟩ : ∃ Y, Y = dropN n X := ⟨_, rfl⟩
        have hXs := put_spec n hasc.2
        rw [← hX] at hXs
        have hXa : Asc X := hX ▸ put_asc hasc hk
        have hYa : Asc Y := hY ▸ dropN_asc hXa
        have hmem : n ∈ X := (hXs.2 n).2 (.inr rfl)
        have hsX : ssB X = true := (ssB_iff X).2 hXa
        have hsY : ssB Y = true := (ssB_iff Y).2 hYa
        have hbX : hasB X n = true := (hasB_iff X n).2 hmem
        have hbY : hasB Y n = false := (hasB_not Y n).2 fun h => by rw [hY] at h; exact (dropN_mem.1 h).2 rfl
        have hlX : X.length ≤ 17 := by have := put_length n L; rw [← hX] at this; omega
        have hlY : X.length = Y.length + 1 := by rw [hY]; exact dropN_length_mem hXs.1 hmem
        have e1 : withS L n = X := by rw [hX]; simp [withS, hs, hk]
        have e2 : flipS X n = Y := by rw [hY]; simp [flipS, flipL, hsX, hk, hbX]
        have s1 : (ssB L && ssB X && subB L X) = true := by rw [hs, hsX]; simp [subB_iff]; exact fun x hx => (hXs.2 x).2 (.inl hx)
        have s2 : (ssB Y && ssB L && subB Y L) = true := by
          rw [hs, hsY]; simp [subB_iff]
          intro x hx
          rw [hY] at hx
          obtain ⟨h1, h2⟩ := dropN_mem.1 hx
          rcases (hXs.2 x).1 h1 with h | h
          · exact h
          · exact absurd h h2
        have s3 : (ssB Y && ssB X && subB Y X) = true := by
          rw [hsX, hsY]; simp [subB_iff]
          intro x hx
          rw [hY] at hx
          exact (dropN_mem.1 hx).1
        have s4 : (ssB X && ssB Y && subB X Y) = false := by
          have : subB X Y = false := by
            cases h : subB X Y with
            | false => rfl
            | true =>
              have := (subB_iff X Y).1 h n hmem
              rw [hY] at this
              exact absurd rfl (dropN_mem.1 this).2
          rw [this, Bool.and_false]
        clear hXs hXa hYa
        have HK := Lib.hid hk; clear hk; have HASC := Lib.hid hasc; clear hasc; have HX := Lib.hid hX; clear hX; have HY := Lib.hid hY; clear hY; have HMEM := Lib.hid hmem; clear hmem; have HLY := Lib.hid hlY; clear hlY
        go_wp2_with fail
        refine (sIsScopeSet_calls al cl L _ HIN1.out).mono ?_
        rintro e w2 ⟨rfl, hb2⟩
        have hz2 := hb2.size
        go_wp2_with fail
        refine (sKindOfScope_calls n _).mono ?_
        rintro e w2' ⟨rfl, hb2'⟩
        have hz2' := hb2'.size
        go_wp2_with fail
        refine (iWithScope_calls al cl L n _ (HIN1.out.below (by (repeat (first | with_reducible assumption | with_reducible exact Below.refl _ _ | with_reducible refine Below.drew ?_ | with_reducible refine belowDrewN ?_ _ | ((with_reducible refine Below.setCell ?_ ?_ _); rotate_left; focus (first | omega | (simp; done) | (simp; omega))) | ((with_reducible refine Below.alloc ?_ ?_ _); rotate_left; focus (first | omega | (simp; done) | (simp; omega))) | ((with_reducible refine Below.trans ?_ (Below.mono hb2 ?_)); rotate_left; focus (first | omega | (simp; done) | (simp; omega))) | ((with_reducible refine Below.trans ?_ (Below.mono hb2' ?_)); rotate_left; focus (first | omega | (simp; done) | (simp; omega))))))) (by omega)).mono ?_
        rintro e w3 ⟨a3, c3, rfl, hm3, hb3⟩
        rw [e1] at hm3 ⊢
        have hz3 := hb3.size
        have hin3 := hm3.in_
        have HM3 := Lib.hid hm3; clear hm3; have HIN3 := Lib.hid hin3; clear hin3
        go_wp2_with fail
        refine (iFlippedScope_calls a3 c3 X n _ HIN3.out (by omega)).mono ?_
        rintro e w4 ⟨a4, c4, rfl, hm4, hb4⟩
        rw [e2] at hm4 ⊢
        have hz4 := hb4.size
        have hin4 := hm4.in_
        have HM4 := Lib.hid hm4; clear hm4; have HIN4 := Lib.hid hin4; clear hin4
        go_wp2_with fail
        refine (iIsScopeSet_calls a3 c3 X _ (HIN3.out.below (by (repeat (first | with_reducible assumption | with_reducible exact Below.refl _ _ | with_reducible refine Below.drew ?_ | with_reducible refine belowDrewN ?_ _ | ((with_reducible refine Below.setCell ?_ ?_ _); rotate_left; focus (first | omega | (simp; done) | (simp; omega))) | ((with_reducible refine Below.alloc ?_ ?_ _); rotate_left; focus (first | omega | (simp; done) | (simp; omega))) | ((with_reducible refine Below.trans ?_ (Below.mono hb4 ?_)); rotate_left; focus (first | omega | (simp; done) | (simp; omega)))))))).mono ?_
        rintro e w5 ⟨rfl, hb5⟩
        have hz5 := hb5.size
        go_wp2_with fail
        refine (iHasScope_calls a3 c3 X n _ (HIN3.out.below (by (repeat (first | with_reducible assumption | with_reducible exact Below.refl _ _ | with_reducible refine Below.drew ?_ | with_reducible refine belowDrewN ?_ _ | ((with_reducible refine Below.setCell ?_ ?_ _); rotate_left; focus (first | omega | (simp; done) | (simp; omega))) | ((with_reducible refine Below.alloc ?_ ?_ _); rotate_left; focus (first | omega | (simp; done) | (simp; omega))) | ((with_reducible refine Below.trans ?_ (Below.mono hb4 ?_)); rotate_left; focus (first | omega | (simp; done) | (simp; omega))) | ((with_reducible refine Below.trans ?_ (Below.mono hb5 ?_)); rotate_left; focus (first | omega | (simp; done) | (simp; omega)))))))).mono ?_
        rintro e w' ⟨rfl, rfl⟩
        go_wp2_with fail
        refine (iHasScope_calls a4 c4 Y n _ (HIN4.out.below (by (repeat (first | with_reducible assumption | with_reducible exact Below.refl _ _ | with_reducible refine Below.drew ?_ | with_reducible refine belowDrewN ?_ _ | ((with_reducible refine Below.setCell ?_ ?_ _); rotate_left; focus (first | omega | (simp; done) | (simp; omega))) | ((with_reducible refine Below.alloc ?_ ?_ _); rotate_left; focus (first | omega | (simp; done) | (simp; omega))) | ((with_reducible refine Below.trans ?_ (Below.mono hb5 ?_)); rotate_left; focus (first | omega | (simp; done) | (simp; omega)))))))).mono ?_
        rintro e w' ⟨rfl, rfl⟩
        go_wp2_with fail
        refine (iIsSubset_calls al cl L a3 c3 X _ (HIN1.out.below (by (repeat (first | with_reducible assumption | with_reducible exact Below.refl _ _ | with_reducible refine Below.drew ?_ | with_reducible refine belowDrewN ?_ _ | ((with_reducible refine Below.setCell ?_ ?_ _); rotate_left; focus (first | omega | (simp; done) | (simp; omega))) | ((with_reducible refine Below.alloc ?_ ?_ _); rotate_left; focus (first | omega | (simp; done) | (simp; omega))) | ((with_reducible refine Below.trans ?_ (Below.mono hb2 ?_)); rotate_left; focus (first | omega | (simp; done) | (simp; omega))) | ((with_reducible refine Below.trans ?_ (Below.mono hb2' ?_)); rotate_left; focus (first | omega | (simp; done) | (simp; omega))) | ((with_reducible refine Below.trans ?_ (Below.mono hb3 ?_)); rotate_left; focus (first | omega | (simp; done) | (simp; omega))) | ((with_reducible refine Below.trans ?_ (Below.mono hb4 ?_)); rotate_left; focus (first | omega | (simp; done) | (simp; omega))) | ((with_reducible refine Below.trans ?_ (Below.mono hb5 ?_)); rotate_left; focus (first | omega | (simp; done) | (simp; omega))))))) (HIN3.out.below (by (repeat (first | with_reducible assumption | with_reducible exact Below.refl _ _ | with_reducible refine Below.drew ?_ | with_reducible refine belowDrewN ?_ _ | ((with_reducible refine Below.setCell ?_ ?_ _); rotate_left; focus (first | omega | (simp; done) | (simp; omega))) | ((with_reducible refine Below.alloc ?_ ?_ _); rotate_left; focus (first | omega | (simp; done) | (simp; omega))) | ((with_reducible refine Below.trans ?_ (Below.mono hb4 ?_)); rotate_left; focus (first | omega | (simp; done) | (simp; omega))) | ((with_reducible refine Below.trans ?_ (Below.mono hb5 ?_)); rotate_left; focus (first | omega | (simp; done) | (simp; omega)))))))).mono ?_
        rw [s1]
        rintro e w6 ⟨rfl, hb6⟩
        have hz6 := hb6.size
        go_wp2_with fail
        refine (iIsSubset_calls a4 c4 Y al cl L _ (HIN4.out.below (by (repeat (first | with_reducible assumption | with_reducible exact Below.refl _ _ | with_reducible refine Below.drew ?_ | with_reducible refine belowDrewN ?_ _ | ((with_reducible refine Below.setCell ?_ ?_ _); rotate_left; focus (first | omega | (simp; done) | (simp; omega))) | ((with_reducible refine Below.alloc ?_ ?_ _); rotate_left; focus (first | omega | (simp; done) | (simp; omega))) | ((with_reducible refine Below.trans ?_ (Below.mono hb5 ?_)); rotate_left; focus (first | omega | (simp; done) | (simp; omega))) | ((with_reducible refine Below.trans ?_ (Below.mono hb6 ?_)); rotate_left; focus (first | omega | (simp; done) | (simp; omega))))))) (HIN1.out.below (by (repeat (first | with_reducible assumption | with_reducible exact Below.refl _ _ | with_reducible refine Below.drew ?_ | with_reducible refine belowDrewN ?_ _ | ((with_reducible refine Below.setCell ?_ ?_ _); rotate_left; focus (first | omega | (simp; done) | (simp; omega))) | ((with_reducible refine Below.alloc ?_ ?_ _); rotate_left; focus (first | omega | (simp; done) | (simp; omega))) | ((with_reducible refine Below.trans ?_ (Below.mono hb2 ?_)); rotate_left; focus (first | omega | (simp; done) | (simp; omega))) | ((with_reducible refine Below.trans ?_ (Below.mono hb2' ?_)); rotate_left; focus (first | omega | (simp; done) | (simp; omega))) | ((with_reducible refine Below.trans ?_ (Below.mono hb3 ?_)); rotate_left; focus (first | omega | (simp; done) | (simp; omega))) | ((with_reducible refine Below.trans ?_ (Below.mono hb4 ?_)); rotate_left; focus (first | omega | (simp; done) | (simp; omega))) | ((with_reducible refine Below.trans ?_ (Below.mono hb5 ?_)); rotate_left; focus (first | omega | (simp; done) | (simp; omega))) | ((with_reducible refine Below.trans ?_ (Below.mono hb6 ?_)); rotate_left; focus (first | omega | (simp; done) | (simp; omega)))))))).mono ?_
        rw [s2]
        rintro e w7 ⟨rfl, hb7⟩
        have hz7 := hb7.size
        go_wp2_with fail
        refine (iIsSubset_calls a4 c4 Y a3 c3 X _ (HIN4.out.below (by (repeat (first | with_reducible assumption | with_reducible exact Below.refl _ _ | with_reducible refine Below.drew ?_ | with_reducible refine belowDrewN ?_ _ | ((with_reducible refine Below.setCell ?_ ?_ _); rotate_left; focus (first | omega | (simp; done) | (simp; omega))) | ((with_reducible refine Below.alloc ?_ ?_ _); rotate_left; focus (first | omega | (simp; done) | (simp; omega))) | ((with_reducible refine Below.trans ?_ (Below.mono hb5 ?_)); rotate_left; focus (first | omega | (simp; done) | (simp; omega))) | ((with_reducible refine Below.trans ?_ (Below.mono hb6 ?_)); rotate_left; focus (first | omega | (simp; done) | (simp; omega))) | ((with_reducible refine Below.trans ?_ (Below.mono hb7 ?_)); rotate_left; focus (first | omega | (simp; done) | (simp; omega))))))) (HIN3.out.below (by (repeat (first | with_reducible assumption | with_reducible exact Below.refl _ _ | with_reducible refine Below.drew ?_ | with_reducible refine belowDrewN ?_ _ | ((with_reducible refine Below.setCell ?_ ?_ _); rotate_left; focus (first | omega | (simp; done) | (simp; omega))) | ((with_reducible refine Below.alloc ?_ ?_ _); rotate_left; focus (first | omega | (simp; done) | (simp; omega))) | ((with_reducible refine Below.trans ?_ (Below.mono hb4 ?_)); rotate_left; focus (first | omega | (simp; done) | (simp; omega))) | ((with_reducible refine Below.trans ?_ (Below.mono hb5 ?_)); rotate_left; focus (first | omega | (simp; done) | (simp; omega))) | ((with_reducible refine Below.trans ?_ (Below.mono hb6 ?_)); rotate_left; focus (first | omega | (simp; done) | (simp; omega))) | ((with_reducible refine Below.trans ?_ (Below.mono hb7 ?_)); rotate_left; focus (first | omega | (simp; done) | (simp; omega)))))))).mono ?_
        rw [s3]
        rintro e w8 ⟨rfl, hb8⟩
        have hz8 := hb8.size
        go_wp2_with fail
        refine (iIsSubset_calls a3 c3 X a4 c4 Y _ (HIN3.out.below (by (repeat (first | with_reducible assumption | with_reducible exact Below.refl _ _ | with_reducible refine Below.drew ?_ | with_reducible refine belowDrewN ?_ _ | ((with_reducible refine Below.setCell ?_ ?_ _); rotate_left; focus (first | omega | (simp; done) | (simp; omega))) | ((with_reducible refine Below.alloc ?_ ?_ _); rotate_left; focus (first | omega | (simp; done) | (simp; omega))) | ((with_reducible refine Below.trans ?_ (Below.mono hb4 ?_)); rotate_left; focus (first | omega | (simp; done) | (simp; omega))) | ((with_reducible refine Below.trans ?_ (Below.mono hb5 ?_)); rotate_left; focus (first | omega | (simp; done) | (simp; omega))) | ((with_reducible refine Below.trans ?_ (Below.mono hb6 ?_)); rotate_left; focus (first | omega | (simp; done) | (simp; omega))) | ((with_reducible refine Below.trans ?_ (Below.mono hb7 ?_)); rotate_left; focus (first | omega | (simp; done) | (simp; omega))) | ((with_reducible refine Below.trans ?_ (Below.mono hb8 ?_)); rotate_left; focus (first | omega | (simp; done) | (simp; omega))))))) (HIN4.out.below (by (repeat (first | with_reducible assumption | with_reducible exact Below.refl _ _ | with_reducible refine Below.drew ?_ | with_reducible refine belowDrewN ?_ _ | ((with_reducible refine Below.setCell ?_ ?_ _); rotate_left; focus (first | omega | (simp; done) | (simp; omega))) | ((with_reducible refine Below.alloc ?_ ?_ _); rotate_left; focus (first | omega | (simp; done) | (simp; omega))) | ((with_reducible refine Below.trans ?_ (Below.mono hb5 ?_)); rotate_left; focus (first | omega | (simp; done) | (simp; omega))) | ((with_reducible refine Below.trans ?_ (Below.mono hb6 ?_)); rotate_left; focus (first | omega | (simp; done) | (simp; omega))) | ((with_reducible refine Below.trans ?_ (Below.mono hb7 ?_)); rotate_left; focus (first | omega | (simp; done) | (simp; omega))) | ((with_reducible refine Below.trans ?_ (Below.mono hb8 ?_)); rotate_left; focus (first | omega | (simp; done) | (simp; omega)))))))).mono ?_
        rw [s4]
        rintro e w9 ⟨rfl, hb9⟩
        have hz9 := hb9.size
        have hyl : Y.length ≤ 17 := by have := HLY.out; omega
        have hlen' : ((X.length : Int) == (Y.length : Int) + 1) = true := by have := HLY.out; simp; omega
        go_wp2_with fail
        go_ret
        exact ⟨ret_b (by first | rfl | exact hlen' | simpa using hlen'), by (repeat (first | with_reducible assumption | with_reducible exact Below.refl _ _ | with_reducible refine Below.drew ?_ | with_reducible refine belowDrewN ?_ _ | ((with_reducible refine Below.setCell ?_ ?_ _); rotate_left; focus (first | omega | (simp; done) | (simp; omega))) | ((with_reducible refine Below.alloc ?_ ?_ _); rotate_left; focus (first | omega | (simp; done) | (simp; omega))) | ((with_reducible refine Below.trans ?_ (Below.mono hb1 ?_)); rotate_left; focus (first | omega | (simp; done) | (simp; omega))) | ((with_reducible refine Below.trans ?_ (Below.mono hb2 ?_)); rotate_left; focus (first | omega | (simp; done) | (simp; omega))) | ((with_reducible refine Below.trans ?_ (Below.mono hb2' ?_)); rotate_left; focus (first | omega | (simp; done) | (simp; omega))) | ((with_reducible refine Below.trans ?_ (Below.mono hb3 ?_)); rotate_left; focus (first | omega | (simp; done) | (simp; omega))) | ((with_reducible refine Below.trans ?_ (Below.mono hb4 ?_)); rotate_left; focus (first | omega | (simp; done) | (simp; omega))) | ((with_reducible refine Below.trans ?_ (Below.mono hb5 ?_)); rotate_left; focus (first | omega | (simp; done) | (simp; omega))) | ((with_reducible refine Below.trans ?_ (Below.mono hb6 ?_)); rotate_left; focus (first | omega | (simp; done) | (simp; omega))) | ((with_reducible refine Below.trans ?_ (Below.mono hb7 ?_)); rotate_left; focus (first | omega | (simp; done) | (simp; omega))) | ((with_reducible refine Below.trans ?_ (Below.mono hb8 ?_)); rotate_left; focus (first | omega | (simp; done) | (simp; omega))) | ((with_reducible refine Below.trans ?_ (Below.mono hb9 ?_)); rotate_left; focus (first | omega | (simp; done) | (simp; omega)))))⟩

set_option maxRecDepth 100000 in
theorem fnScopeSets_lifted (os : Os) (started : os.Started) (H : Type) (enc : TypeId × Value → H) :
    ReturnsInHanded {} Try.checked os 7 .any (Rows.fnScopeSetsSpec.pre6 enc Try.prog Try.f7 Rows.fnScopeSetsRow.domain false) (Rows.fnScopeSetsSpec.post enc Try.prog Try.f7 false true false false) := by
  refine returnsInHanded_of_change (C := Try.checked) own_ started (by kernel_rfl) Try.func7
    (ChangeSpec.witness6 (enc := enc) (C := Try.checked) false ⟨#[], #[.slice none 0 0], []⟩ 8 (by kernel_rfl) (by kernel_rfl) (by kernel_rfl) (by kernel_rfl)) ?_
  intro W base args ds gs before hval0 hW hcnd _
  have hval : ∀ (j : Nat) t v, Try.f7.params[j]? = some t → args[j]? = some v → Value.okWide Try.prog W .any base t v := hval0
  have hW' := hW
  obtain ⟨p, q, hA0, hV, rfl, hfz, hnd⟩ := hW
  have hA : DataW.TrodAll enc Try.prog W 0 (fun _ => true) true Try.f7.params.toList args.toList ds p := hA0
  rw [Try.params7] at hA hval
  obtain ⟨v0, vs0, d0, ds0_, p0, q0, hargs, rfl, rfl, h0, r0⟩ := trodAll_cons hA
  obtain ⟨rfl, rfl, rfl⟩ := trodAll_nil r0
  obtain rfl : args = #[v0] := by cases args; simp_all
  obtain ⟨rfl, rfl⟩ := trodVars_none hV
  have k0_ := h0
  have lt0 : ∀ x ∈ p0, x.block < W.heap.size := by obtain ⟨m, hm⟩ := k0_; exact DataW.trod_lt m _ _ _ hm
  obtain ⟨a0, c0, l0, rfl, hin0, wl0⟩ := arg_bytes (hval 0 47 v0 rfl rfl) h0
  clear hA0 hval0
  refine (fnScopeSets_walk a0 c0 l0 W hin0 wl0).mono fun e W' ⟨he, bel⟩ => ?_
  subst he
  exact ⟨_, rfl, _, _, _, [], _, [], hW', trodAll_mk1 (shut_bool Try.underlying4 _), (trodAll_cons_mk (Below.trod laidOut_ (by kernel_rfl) (of_decide_eq_true (by kernel_rfl)) k0_ bel lt0) trodAll_mk0), rfl, bel.frame _, fun h => by cases h⟩

theorem fnScopeSets_facts : joinedFacts Try.prog 7 Try.f7 Rows.fnScopeSetsSpec Rows.fnScopeSetsRow = true := by
  unfold joinedFacts
  repeat' with_reducible refine and_mk ?_ ?_
  all_goals first | with_reducible exact mayEnter_ | (rw [lifts_]; kernel_rfl) | (rw [make_]; kernel_rfl) | (as_aux_lemma => kernel_rfl)

/-- FnScopeSets: for every input the call returns true, and each argument reads afterwards as before. No condition. -/
theorem fnScopeSets_holds : Rows.FnScopeSetsSaid :=
  OpenClaim.holds_of_wide 7 Try.f7 rfl rfl rfl rfl rfl rfl rfl ⟨rfl, rfl, rfl, rfl, rfl⟩ rfl rfl rfl rfl rfl (by as_aux_lemma => kernel_rfl) Try.func7 fnScopeSets_facts
    (of_decide_eq_true (by kernel_rfl)) (by unfold Func.isWrapper; first | (rw [if_pos (by decide +kernel)]; kernel_rfl) | (rw [if_neg (by decide +kernel)]; exact ⟨rfl, rfl⟩))
    (fun os started H enc _ => fnScopeSets_lifted os started H enc)
#print axioms fnScopeSets_holds

end Go.Proofs.Ytdfekdeojahmmab
