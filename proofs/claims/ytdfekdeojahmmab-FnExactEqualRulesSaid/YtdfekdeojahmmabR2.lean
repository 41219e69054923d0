/-
  Walks: EqualRules. No condition.
-/
import Derived.Test.YtdfekdeojahmmabR1
import Derived.Test.YtdfekdeojahmmabY5
set_option linter.unusedVariables false
set_option linter.unusedSimpArgs false
set_option maxRecDepth 100000
namespace Go.Proofs.Ytdfekdeojahmmab
open Go.RowKit

open Classical in
noncomputable def eqSLB (x y : List Syn) : Bool := decide (x = y)
theorem eqSLB_iff (x y : List Syn) : eqSLB x y = true ↔ x = y := by simp [eqSLB]
theorem eqSLB_not (x y : List Syn) : eqSLB x y = false ↔ ¬ x = y := by simp [eqSLB]
theorem l4SameList_calls (ds : List Syn) (a : Option Addr) (cap : Nat) (ms : List M) (ds' : List Syn) (a' : Option Addr) (cap' : Nat) (ms' : List M) (w : World) (hi : Syn.IsL 30 ds ms) (hin : (M.sl a cap 5 30 ms).In w) (hi' : Syn.IsL 30 ds' ms') (hin' : (M.sl a' cap' 5 30 ms').In w) :
    Calls Try.prog 125 #[.slice a ms.length cap, .slice a' ms'.length cap'] w (Ret (.bool (eqSLB ds ds')) w) := by
  have hln := hi.length
  have hln' := hi'.length
  have hcapm := hin.len
  have hcapm' := hin'.len
  by_cases hl : ms.length = ms'.length
  · have hl' : ((ms.length : Int) != (ms'.length : Int)) = false := by simp [hl]
    have HIN := Lib.hid hin; clear hin; have HI := Lib.hid hi; clear hi; have HIN' := Lib.hid hin'; clear hin'; have HI' := Lib.hid hi'; clear hi'; have HLN := Lib.hid hln; clear hln; have HLN' := Lib.hid hln'; clear hln'; have HL := Lib.hid hl; clear hl
    go_enter Try.func125, Try.ntmps125
    go_wp2_with fail
    go_loopw [13] (fun i wr => ∃ j : Nat, j ≤ ms.length ∧ i = .int .i64 j ∧ ds.take j = ds'.take j ∧ Below w.heap.size w wr ∧ w.heap.size ≤ wr.heap.size) (fun i _ => ms.length - (intOf i).toNat)
    case atStart => exact ⟨0, Nat.zero_le _, rfl, by simp, Below.refl _ _, Nat.le_refl _⟩
    case round =>
      obtain ⟨j, hj, rfl, hpre, hb, hsz⟩ := hrel
      by_cases hlt : j < ms.length
      · have hlt' : j < ms'.length := by have := HL.out; omega
        obtain ⟨b, off, k1, n1, s1, x1, ds1, xa1, xc1, a1, cap1, ms1, rfl, hd, hi1, hx1, hin1, c0, c1, c2, c3, c4⟩ := Syn.elem (HIN.out.below hb) HI.out j hlt
        obtain ⟨b', off', k1', n1', s1', x1', ds1', xa1', xc1', a1', cap1', ms1', rfl, hd', hi1', hx1', hin1', c0', c1', c2', c3', c4'⟩ := Syn.elem (HIN'.out.below hb) HI'.out j hlt'
        have hbl := World.block_lt_of_cell? wr _ c0
        have hbl' := World.block_lt_of_cell? wr _ c0'
        by_cases heq : Syn.mk k1 n1 s1 x1 ds1 = Syn.mk k1' n1' s1' x1' ds1'
        · have hq : eqSB (Syn.mk k1 n1 s1 x1 ds1) (Syn.mk k1' n1' s1' x1' ds1') = true := (eqSB_iff _ _).2 heq
          have hpre2 := take_eq_succ hpre hd hd' heq
          have HI1 := Lib.hid hi1; clear hi1; have HIN1 := Lib.hid hin1; clear hin1; have HI1' := Lib.hid hi1'; clear hi1'; have HIN1' := Lib.hid hin1'; clear hin1'; have HD := Lib.hid hd; clear hd; have HD' := Lib.hid hd'; clear hd'; have HPRE := Lib.hid hpre; clear hpre; have HPRE2 := Lib.hid hpre2; clear hpre2; have HEQ := Lib.hid heq; clear heq; have HX1 := Lib.hid hx1; clear hx1; have HX1' := Lib.hid hx1'; clear hx1'
          go_wp2_with fail
          go_region_held3 (fun w' => (w'.cell? ⟨b, off + j * 5, none⟩ = some (.int .i64 k1) ∧ w'.cell? ⟨b, off + j * 5 + 1, none⟩ = some (.int .i64 n1) ∧ w'.cell? ⟨b, off + j * 5 + 2, none⟩ = some (.string s1) ∧ w'.cell? ⟨b, off + j * 5 + 3, none⟩ = some (.slice xa1 x1.length xc1) ∧ w'.cell? ⟨b, off + j * 5 + 4, none⟩ = some (.slice a1 ms1.length cap1) ∧ w'.cell? ⟨b', off' + j * 5, none⟩ = some (.int .i64 k1') ∧ w'.cell? ⟨b', off' + j * 5 + 1, none⟩ = some (.int .i64 n1') ∧ w'.cell? ⟨b', off' + j * 5 + 2, none⟩ = some (.string s1') ∧ w'.cell? ⟨b', off' + j * 5 + 3, none⟩ = some (.slice xa1' x1'.length xc1') ∧ w'.cell? ⟨b', off' + j * 5 + 4, none⟩ = some (.slice a1' ms1'.length cap1')))
            (first | exact ⟨c0, c1, c2, c3, c4, c0', c1', c2', c3', c4'⟩ | exact ⟨(hc1 _ _ hbl).trans c0, (hc1 _ _ hbl).trans c1, (hc1 _ _ hbl).trans c2, (hc1 _ _ hbl).trans c3, (hc1 _ _ hbl).trans c4, (hc1 _ _ hbl').trans c0', (hc1 _ _ hbl').trans c1', (hc1 _ _ hbl').trans c2', (hc1 _ _ hbl').trans c3', (hc1 _ _ hbl').trans c4'⟩)
            (first | (go_at_call 22; refine (sEqualSyntax_calls ds1 k1 n1 s1 x1 xa1 xc1 a1 cap1 ms1 k1' n1' s1' x1' xa1' xc1' a1' cap1' ds1' ms1' _ HI1.out (SynIn_mk (HX1.out.below (by (repeat (first | with_reducible assumption | with_reducible exact Below.refl _ _ | with_reducible refine Below.drew ?_ | with_reducible refine belowDrewN ?_ _ | ((with_reducible refine Below.setCell ?_ ?_ _); rotate_left; focus (first | omega | (simp; done) | (simp; omega))) | ((with_reducible refine Below.alloc ?_ ?_ _); rotate_left; focus (first | omega | (simp; done) | (simp; omega))))))) (HIN1.out.below (by (repeat (first | with_reducible assumption | with_reducible exact Below.refl _ _ | with_reducible refine Below.drew ?_ | with_reducible refine belowDrewN ?_ _ | ((with_reducible refine Below.setCell ?_ ?_ _); rotate_left; focus (first | omega | (simp; done) | (simp; omega))) | ((with_reducible refine Below.alloc ?_ ?_ _); rotate_left; focus (first | omega | (simp; done) | (simp; omega)))))))) HI1'.out (SynIn_mk (HX1'.out.below (by (repeat (first | with_reducible assumption | with_reducible exact Below.refl _ _ | with_reducible refine Below.drew ?_ | with_reducible refine belowDrewN ?_ _ | ((with_reducible refine Below.setCell ?_ ?_ _); rotate_left; focus (first | omega | (simp; done) | (simp; omega))) | ((with_reducible refine Below.alloc ?_ ?_ _); rotate_left; focus (first | omega | (simp; done) | (simp; omega))))))) (HIN1'.out.below (by (repeat (first | with_reducible assumption | with_reducible exact Below.refl _ _ | with_reducible refine Below.drew ?_ | with_reducible refine belowDrewN ?_ _ | ((with_reducible refine Below.setCell ?_ ?_ _); rotate_left; focus (first | omega | (simp; done) | (simp; omega))) | ((with_reducible refine Below.alloc ?_ ?_ _); rotate_left; focus (first | omega | (simp; done) | (simp; omega))))))))).mono ?_; rintro e w1 ⟨rfl, hb1⟩; obtain ⟨hc1, hf1⟩ := bcell hb1))
          have hz1 := hb1.size
          simp only [World.size_drew] at hz1
          go_wp2_with fail
          go_roundw
          case rel => exact ⟨j + 1, by omega, by go_num, HPRE2.out, by (repeat (first | with_reducible assumption | with_reducible exact Below.refl _ _ | with_reducible refine Below.drew ?_ | with_reducible refine belowDrewN ?_ _ | ((with_reducible refine Below.setCell ?_ ?_ _); rotate_left; focus (first | omega | (simp; done) | (simp; omega))) | ((with_reducible refine Below.alloc ?_ ?_ _); rotate_left; focus (first | omega | (simp; done) | (simp; omega))) | ((with_reducible refine Below.trans ?_ (Below.mono hb1 ?_)); rotate_left; focus (first | omega | (simp; done) | (simp; omega))))), by omega⟩
          case measure => simp [intOf]; omega
        · have hq : eqSB (Syn.mk k1 n1 s1 x1 ds1) (Syn.mk k1' n1' s1' x1' ds1') = false := (eqSB_not _ _).2 heq
          have hne := ne_of_get hd hd' heq
          have HI1 := Lib.hid hi1; clear hi1; have HIN1 := Lib.hid hin1; clear hin1; have HI1' := Lib.hid hi1'; clear hi1'; have HIN1' := Lib.hid hin1'; clear hin1'; have HD := Lib.hid hd; clear hd; have HD' := Lib.hid hd'; clear hd'; have HPRE := Lib.hid hpre; clear hpre; have HNE := Lib.hid hne; clear hne; have HEQ := Lib.hid heq; clear heq; have HX1 := Lib.hid hx1; clear hx1; have HX1' := Lib.hid hx1'; clear hx1'
          go_wp2_with fail
          go_region_held3 (fun w' => (w'.cell? ⟨b, off + j * 5, none⟩ = some (.int .i64 k1) ∧ w'.cell? ⟨b, off + j * 5 + 1, none⟩ = some (.int .i64 n1) ∧ w'.cell? ⟨b, off + j * 5 + 2, none⟩ = some (.string s1) ∧ w'.cell? ⟨b, off + j * 5 + 3, none⟩ = some (.slice xa1 x1.length xc1) ∧ w'.cell? ⟨b, off + j * 5 + 4, none⟩ = some (.slice a1 ms1.length cap1) ∧ w'.cell? ⟨b', off' + j * 5, none⟩ = some (.int .i64 k1') ∧ w'.cell? ⟨b', off' + j * 5 + 1, none⟩ = some (.int .i64 n1') ∧ w'.cell? ⟨b', off' + j * 5 + 2, none⟩ = some (.string s1') ∧ w'.cell? ⟨b', off' + j * 5 + 3, none⟩ = some (.slice xa1' x1'.length xc1') ∧ w'.cell? ⟨b', off' + j * 5 + 4, none⟩ = some (.slice a1' ms1'.length cap1')))
            (first | exact ⟨c0, c1, c2, c3, c4, c0', c1', c2', c3', c4'⟩ | exact ⟨(hc1 _ _ hbl).trans c0, (hc1 _ _ hbl).trans c1, (hc1 _ _ hbl).trans c2, (hc1 _ _ hbl).trans c3, (hc1 _ _ hbl).trans c4, (hc1 _ _ hbl').trans c0', (hc1 _ _ hbl').trans c1', (hc1 _ _ hbl').trans c2', (hc1 _ _ hbl').trans c3', (hc1 _ _ hbl').trans c4'⟩)
            (first | (go_at_call 22; refine (sEqualSyntax_calls ds1 k1 n1 s1 x1 xa1 xc1 a1 cap1 ms1 k1' n1' s1' x1' xa1' xc1' a1' cap1' ds1' ms1' _ HI1.out (SynIn_mk (HX1.out.below (by (repeat (first | with_reducible assumption | with_reducible exact Below.refl _ _ | with_reducible refine Below.drew ?_ | with_reducible refine belowDrewN ?_ _ | ((with_reducible refine Below.setCell ?_ ?_ _); rotate_left; focus (first | omega | (simp; done) | (simp; omega))) | ((with_reducible refine Below.alloc ?_ ?_ _); rotate_left; focus (first | omega | (simp; done) | (simp; omega))))))) (HIN1.out.below (by (repeat (first | with_reducible assumption | with_reducible exact Below.refl _ _ | with_reducible refine Below.drew ?_ | with_reducible refine belowDrewN ?_ _ | ((with_reducible refine Below.setCell ?_ ?_ _); rotate_left; focus (first | omega | (simp; done) | (simp; omega))) | ((with_reducible refine Below.alloc ?_ ?_ _); rotate_left; focus (first | omega | (simp; done) | (simp; omega)))))))) HI1'.out (SynIn_mk (HX1'.out.below (by (repeat (first | with_reducible assumption | with_reducible exact Below.refl _ _ | with_reducible refine Below.drew ?_ | with_reducible refine belowDrewN ?_ _ | ((with_reducible refine Below.setCell ?_ ?_ _); rotate_left; focus (first | omega | (simp; done) | (simp; omega))) | ((with_reducible refine Below.alloc ?_ ?_ _); rotate_left; focus (first | omega | (simp; done) | (simp; omega))))))) (HIN1'.out.below (by (repeat (first | with_reducible assumption | with_reducible exact Below.refl _ _ | with_reducible refine Below.drew ?_ | with_reducible refine belowDrewN ?_ _ | ((with_reducible refine Below.setCell ?_ ?_ _); rotate_left; focus (first | omega | (simp; done) | (simp; omega))) | ((with_reducible refine Below.alloc ?_ ?_ _); rotate_left; focus (first | omega | (simp; done) | (simp; omega))))))))).mono ?_; rintro e w1 ⟨rfl, hb1⟩; obtain ⟨hc1, hf1⟩ := bcell hb1))
          go_wp2_with fail
          go_ret
          exact ⟨ret_b ((eqSLB_not _ _).2 HNE.out).symm, by (repeat (first | with_reducible assumption | with_reducible exact Below.refl _ _ | with_reducible refine Below.drew ?_ | with_reducible refine belowDrewN ?_ _ | ((with_reducible refine Below.setCell ?_ ?_ _); rotate_left; focus (first | omega | (simp; done) | (simp; omega))) | ((with_reducible refine Below.alloc ?_ ?_ _); rotate_left; focus (first | omega | (simp; done) | (simp; omega))) | ((with_reducible refine Below.trans ?_ (Below.mono hb1 ?_)); rotate_left; focus (first | omega | (simp; done) | (simp; omega)))))⟩
      · go_wp2_with fail
        go_ret
        have hj2 : j = ms.length := by omega
        subst hj2
        refine ⟨ret_b ((eqSLB_iff _ _).2 ?_).symm, hb⟩
        have hpre' := hpre
        rwa [HLN.out, List.take_length, ← HLN.out, HL.out, HLN'.out, List.take_length] at hpre'
  · have hl' : ((ms.length : Int) != (ms'.length : Int)) = true := by simp; omega
    have HIN := Lib.hid hin; clear hin; have HI := Lib.hid hi; clear hi; have HIN' := Lib.hid hin'; clear hin'; have HI' := Lib.hid hi'; clear hi'; have HLN := Lib.hid hln; clear hln; have HLN' := Lib.hid hln'; clear hln'; have HL := Lib.hid hl; clear hl
    go_enter Try.func125, Try.ntmps125
    go_wp2_with fail
    go_ret
    exact ⟨ret_b ((eqSLB_not _ _).2 (by intro e; exact HL.out (by rw [HLN.out, HLN'.out, e]))).symm, by (repeat (first | with_reducible assumption | with_reducible exact Below.refl _ _ | with_reducible refine Below.drew ?_ | with_reducible refine belowDrewN ?_ _ | ((with_reducible refine Below.setCell ?_ ?_ _); rotate_left; focus (first | omega | (simp; done) | (simp; omega))) | ((with_reducible refine Below.alloc ?_ ?_ _); rotate_left; focus (first | omega | (simp; done) | (simp; omega)))))⟩
theorem equalSyntaxes_calls (ds : List Syn) (a : Option Addr) (cap : Nat) (ms : List M) (ds' : List Syn) (a' : Option Addr) (cap' : Nat) (ms' : List M) (w : World) (hi : Syn.IsL 30 ds ms) (hin : (M.sl a cap 5 30 ms).In w) (hi' : Syn.IsL 30 ds' ms') (hin' : (M.sl a' cap' 5 30 ms').In w) :
    Calls Try.prog 126 #[.slice a ms.length cap, .slice a' ms'.length cap'] w (Ret (.bool (eqSLB ds ds')) w) := by
  have hln := hi.length
  have hln' := hi'.length
  have hcapm := hin.len
  have hcapm' := hin'.len
  by_cases hl : ms.length = ms'.length
  · have hl' : ((ms.length : Int) != (ms'.length : Int)) = false := by simp [hl]
    have HIN := Lib.hid hin; clear hin; have HI := Lib.hid hi; clear hi; have HIN' := Lib.hid hin'; clear hin'; have HI' := Lib.hid hi'; clear hi'; have HLN := Lib.hid hln; clear hln; have HLN' := Lib.hid hln'; clear hln'; have HL := Lib.hid hl; clear hl
    go_enter Try.func126, Try.ntmps126
    go_wp2_with fail
    go_loopw [13] (fun i wr => ∃ j : Nat, j ≤ ms.length ∧ i = .int .i64 j ∧ ds.take j = ds'.take j ∧ Below w.heap.size w wr ∧ w.heap.size ≤ wr.heap.size) (fun i _ => ms.length - (intOf i).toNat)
    case atStart => exact ⟨0, Nat.zero_le _, rfl, by simp, Below.refl _ _, Nat.le_refl _⟩
    case round =>
      obtain ⟨j, hj, rfl, hpre, hb, hsz⟩ := hrel
      by_cases hlt : j < ms.length
      · have hlt' : j < ms'.length := by have := HL.out; omega
        obtain ⟨b, off, k1, n1, s1, x1, ds1, xa1, xc1, a1, cap1, ms1, rfl, hd, hi1, hx1, hin1, c0, c1, c2, c3, c4⟩ := Syn.elem (HIN.out.below hb) HI.out j hlt
        obtain ⟨b', off', k1', n1', s1', x1', ds1', xa1', xc1', a1', cap1', ms1', rfl, hd', hi1', hx1', hin1', c0', c1', c2', c3', c4'⟩ := Syn.elem (HIN'.out.below hb) HI'.out j hlt'
        have hbl := World.block_lt_of_cell? wr _ c0
        have hbl' := World.block_lt_of_cell? wr _ c0'
        by_cases heq : Syn.mk k1 n1 s1 x1 ds1 = Syn.mk k1' n1' s1' x1' ds1'
        · have hq : eqSB (Syn.mk k1 n1 s1 x1 ds1) (Syn.mk k1' n1' s1' x1' ds1') = true := (eqSB_iff _ _).2 heq
          have hpre2 := take_eq_succ hpre hd hd' heq
          have HI1 := Lib.hid hi1; clear hi1; have HIN1 := Lib.hid hin1; clear hin1; have HI1' := Lib.hid hi1'; clear hi1'; have HIN1' := Lib.hid hin1'; clear hin1'; have HD := Lib.hid hd; clear hd; have HD' := Lib.hid hd'; clear hd'; have HPRE := Lib.hid hpre; clear hpre; have HPRE2 := Lib.hid hpre2; clear hpre2; have HEQ := Lib.hid heq; clear heq; have HX1 := Lib.hid hx1; clear hx1; have HX1' := Lib.hid hx1'; clear hx1'
          go_wp2_with fail
          go_region_held3 (fun w' => (w'.cell? ⟨b, off + j * 5, none⟩ = some (.int .i64 k1) ∧ w'.cell? ⟨b, off + j * 5 + 1, none⟩ = some (.int .i64 n1) ∧ w'.cell? ⟨b, off + j * 5 + 2, none⟩ = some (.string s1) ∧ w'.cell? ⟨b, off + j * 5 + 3, none⟩ = some (.slice xa1 x1.length xc1) ∧ w'.cell? ⟨b, off + j * 5 + 4, none⟩ = some (.slice a1 ms1.length cap1) ∧ w'.cell? ⟨b', off' + j * 5, none⟩ = some (.int .i64 k1') ∧ w'.cell? ⟨b', off' + j * 5 + 1, none⟩ = some (.int .i64 n1') ∧ w'.cell? ⟨b', off' + j * 5 + 2, none⟩ = some (.string s1') ∧ w'.cell? ⟨b', off' + j * 5 + 3, none⟩ = some (.slice xa1' x1'.length xc1') ∧ w'.cell? ⟨b', off' + j * 5 + 4, none⟩ = some (.slice a1' ms1'.length cap1')))
            (first | exact ⟨c0, c1, c2, c3, c4, c0', c1', c2', c3', c4'⟩ | exact ⟨(hc1 _ _ hbl).trans c0, (hc1 _ _ hbl).trans c1, (hc1 _ _ hbl).trans c2, (hc1 _ _ hbl).trans c3, (hc1 _ _ hbl).trans c4, (hc1 _ _ hbl').trans c0', (hc1 _ _ hbl').trans c1', (hc1 _ _ hbl').trans c2', (hc1 _ _ hbl').trans c3', (hc1 _ _ hbl').trans c4'⟩)
            (first | (go_at_call 24; refine (iEqualSyntax_calls ds1 k1 n1 s1 x1 xa1 xc1 a1 cap1 ms1 k1' n1' s1' x1' xa1' xc1' a1' cap1' ds1' ms1' _ HI1.out (SynIn_mk (HX1.out.below (by (repeat (first | with_reducible assumption | with_reducible exact Below.refl _ _ | with_reducible refine Below.drew ?_ | with_reducible refine belowDrewN ?_ _ | ((with_reducible refine Below.setCell ?_ ?_ _); rotate_left; focus (first | omega | (simp; done) | (simp; omega))) | ((with_reducible refine Below.alloc ?_ ?_ _); rotate_left; focus (first | omega | (simp; done) | (simp; omega))))))) (HIN1.out.below (by (repeat (first | with_reducible assumption | with_reducible exact Below.refl _ _ | with_reducible refine Below.drew ?_ | with_reducible refine belowDrewN ?_ _ | ((with_reducible refine Below.setCell ?_ ?_ _); rotate_left; focus (first | omega | (simp; done) | (simp; omega))) | ((with_reducible refine Below.alloc ?_ ?_ _); rotate_left; focus (first | omega | (simp; done) | (simp; omega)))))))) HI1'.out (SynIn_mk (HX1'.out.below (by (repeat (first | with_reducible assumption | with_reducible exact Below.refl _ _ | with_reducible refine Below.drew ?_ | with_reducible refine belowDrewN ?_ _ | ((with_reducible refine Below.setCell ?_ ?_ _); rotate_left; focus (first | omega | (simp; done) | (simp; omega))) | ((with_reducible refine Below.alloc ?_ ?_ _); rotate_left; focus (first | omega | (simp; done) | (simp; omega))))))) (HIN1'.out.below (by (repeat (first | with_reducible assumption | with_reducible exact Below.refl _ _ | with_reducible refine Below.drew ?_ | with_reducible refine belowDrewN ?_ _ | ((with_reducible refine Below.setCell ?_ ?_ _); rotate_left; focus (first | omega | (simp; done) | (simp; omega))) | ((with_reducible refine Below.alloc ?_ ?_ _); rotate_left; focus (first | omega | (simp; done) | (simp; omega))))))))).mono ?_; rintro e w1 ⟨rfl, hb1⟩; obtain ⟨hc1, hf1⟩ := bcell hb1))
          have hz1 := hb1.size
          simp only [World.size_drew] at hz1
          go_wp2_with fail
          go_roundw
          case rel => exact ⟨j + 1, by omega, by go_num, HPRE2.out, by (repeat (first | with_reducible assumption | with_reducible exact Below.refl _ _ | with_reducible refine Below.drew ?_ | with_reducible refine belowDrewN ?_ _ | ((with_reducible refine Below.setCell ?_ ?_ _); rotate_left; focus (first | omega | (simp; done) | (simp; omega))) | ((with_reducible refine Below.alloc ?_ ?_ _); rotate_left; focus (first | omega | (simp; done) | (simp; omega))) | ((with_reducible refine Below.trans ?_ (Below.mono hb1 ?_)); rotate_left; focus (first | omega | (simp; done) | (simp; omega))))), by omega⟩
          case measure => simp [intOf]; omega
        · have hq : eqSB (Syn.mk k1 n1 s1 x1 ds1) (Syn.mk k1' n1' s1' x1' ds1') = false := (eqSB_not _ _).2 heq
          have hne := ne_of_get hd hd' heq
          have HI1 := Lib.hid hi1; clear hi1; have HIN1 := Lib.hid hin1; clear hin1; have HI1' := Lib.hid hi1'; clear hi1'; have HIN1' := Lib.hid hin1'; clear hin1'; have HD := Lib.hid hd; clear hd; have HD' := Lib.hid hd'; clear hd'; have HPRE := Lib.hid hpre; clear hpre; have HNE := Lib.hid hne; clear hne; have HEQ := Lib.hid heq; clear heq; have HX1 := Lib.hid hx1; clear hx1; have HX1' := Lib.hid hx1'; clear hx1'
          go_wp2_with fail
          go_region_held3 (fun w' => (w'.cell? ⟨b, off + j * 5, none⟩ = some (.int .i64 k1) ∧ w'.cell? ⟨b, off + j * 5 + 1, none⟩ = some (.int .i64 n1) ∧ w'.cell? ⟨b, off + j * 5 + 2, none⟩ = some (.string s1) ∧ w'.cell? ⟨b, off + j * 5 + 3, none⟩ = some (.slice xa1 x1.length xc1) ∧ w'.cell? ⟨b, off + j * 5 + 4, none⟩ = some (.slice a1 ms1.length cap1) ∧ w'.cell? ⟨b', off' + j * 5, none⟩ = some (.int .i64 k1') ∧ w'.cell? ⟨b', off' + j * 5 + 1, none⟩ = some (.int .i64 n1') ∧ w'.cell? ⟨b', off' + j * 5 + 2, none⟩ = some (.string s1') ∧ w'.cell? ⟨b', off' + j * 5 + 3, none⟩ = some (.slice xa1' x1'.length xc1') ∧ w'.cell? ⟨b', off' + j * 5 + 4, none⟩ = some (.slice a1' ms1'.length cap1')))
            (first | exact ⟨c0, c1, c2, c3, c4, c0', c1', c2', c3', c4'⟩ | exact ⟨(hc1 _ _ hbl).trans c0, (hc1 _ _ hbl).trans c1, (hc1 _ _ hbl).trans c2, (hc1 _ _ hbl).trans c3, (hc1 _ _ hbl).trans c4, (hc1 _ _ hbl').trans c0', (hc1 _ _ hbl').trans c1', (hc1 _ _ hbl').trans c2', (hc1 _ _ hbl').trans c3', (hc1 _ _ hbl').trans c4'⟩)
            (first | (go_at_call 24; refine (iEqualSyntax_calls ds1 k1 n1 s1 x1 xa1 xc1 a1 cap1 ms1 k1' n1' s1' x1' xa1' xc1' a1' cap1' ds1' ms1' _ HI1.out (SynIn_mk (HX1.out.below (by (repeat (first | with_reducible assumption | with_reducible exact Below.refl _ _ | with_reducible refine Below.drew ?_ | with_reducible refine belowDrewN ?_ _ | ((with_reducible refine Below.setCell ?_ ?_ _); rotate_left; focus (first | omega | (simp; done) | (simp; omega))) | ((with_reducible refine Below.alloc ?_ ?_ _); rotate_left; focus (first | omega | (simp; done) | (simp; omega))))))) (HIN1.out.below (by (repeat (first | with_reducible assumption | with_reducible exact Below.refl _ _ | with_reducible refine Below.drew ?_ | with_reducible refine belowDrewN ?_ _ | ((with_reducible refine Below.setCell ?_ ?_ _); rotate_left; focus (first | omega | (simp; done) | (simp; omega))) | ((with_reducible refine Below.alloc ?_ ?_ _); rotate_left; focus (first | omega | (simp; done) | (simp; omega)))))))) HI1'.out (SynIn_mk (HX1'.out.below (by (repeat (first | with_reducible assumption | with_reducible exact Below.refl _ _ | with_reducible refine Below.drew ?_ | with_reducible refine belowDrewN ?_ _ | ((with_reducible refine Below.setCell ?_ ?_ _); rotate_left; focus (first | omega | (simp; done) | (simp; omega))) | ((with_reducible refine Below.alloc ?_ ?_ _); rotate_left; focus (first | omega | (simp; done) | (simp; omega))))))) (HIN1'.out.below (by (repeat (first | with_reducible assumption | with_reducible exact Below.refl _ _ | with_reducible refine Below.drew ?_ | with_reducible refine belowDrewN ?_ _ | ((with_reducible refine Below.setCell ?_ ?_ _); rotate_left; focus (first | omega | (simp; done) | (simp; omega))) | ((with_reducible refine Below.alloc ?_ ?_ _); rotate_left; focus (first | omega | (simp; done) | (simp; omega))))))))).mono ?_; rintro e w1 ⟨rfl, hb1⟩; obtain ⟨hc1, hf1⟩ := bcell hb1))
          go_wp2_with fail
          go_ret
          exact ⟨ret_b ((eqSLB_not _ _).2 HNE.out).symm, by (repeat (first | with_reducible assumption | with_reducible exact Below.refl _ _ | with_reducible refine Below.drew ?_ | with_reducible refine belowDrewN ?_ _ | ((with_reducible refine Below.setCell ?_ ?_ _); rotate_left; focus (first | omega | (simp; done) | (simp; omega))) | ((with_reducible refine Below.alloc ?_ ?_ _); rotate_left; focus (first | omega | (simp; done) | (simp; omega))) | ((with_reducible refine Below.trans ?_ (Below.mono hb1 ?_)); rotate_left; focus (first | omega | (simp; done) | (simp; omega)))))⟩
      · go_wp2_with fail
        go_ret
        have hj2 : j = ms.length := by omega
        subst hj2
        refine ⟨ret_b ((eqSLB_iff _ _).2 ?_).symm, hb⟩
        have hpre' := hpre
        rwa [HLN.out, List.take_length, ← HLN.out, HL.out, HLN'.out, List.take_length] at hpre'
  · have hl' : ((ms.length : Int) != (ms'.length : Int)) = true := by simp; omega
    have HIN := Lib.hid hin; clear hin; have HI := Lib.hid hi; clear hi; have HIN' := Lib.hid hin'; clear hin'; have HI' := Lib.hid hi'; clear hi'; have HLN := Lib.hid hln; clear hln; have HLN' := Lib.hid hln'; clear hln'; have HL := Lib.hid hl; clear hl
    go_enter Try.func126, Try.ntmps126
    go_wp2_with fail
    go_ret
    exact ⟨ret_b ((eqSLB_not _ _).2 (by intro e; exact HL.out (by rw [HLN.out, HLN'.out, e]))).symm, by (repeat (first | with_reducible assumption | with_reducible exact Below.refl _ _ | with_reducible refine Below.drew ?_ | with_reducible refine belowDrewN ?_ _ | ((with_reducible refine Below.setCell ?_ ?_ _); rotate_left; focus (first | omega | (simp; done) | (simp; omega))) | ((with_reducible refine Below.alloc ?_ ?_ _); rotate_left; focus (first | omega | (simp; done) | (simp; omega)))))⟩
noncomputable def eqRul (d1 d2 d3 e1 e2 e3 : List Syn) : Bool := eqSLB d1 e1 && (eqSLB d2 e2 && eqSLB d3 e3)
theorem sEqualRules_calls (d1 d2 d3 : List Syn) (a1 : Option Addr) (c1 : Nat) (m1 : List M) (a2 : Option Addr) (c2 : Nat) (m2 : List M) (a3 : Option Addr) (c3 : Nat) (m3 : List M) (e1 e2 e3 : List Syn) (a1' : Option Addr) (c1' : Nat) (m1' : List M) (a2' : Option Addr) (c2' : Nat) (m2' : List M) (a3' : Option Addr) (c3' : Nat) (m3' : List M) (w : World)
    (hi : RulIs 30 d1 d2 d3 m1 m2 m3) (hin : (RulOwn 30 a1 c1 m1 a2 c2 m2 a3 c3 m3).In w) (hi' : RulIs 30 e1 e2 e3 m1' m2' m3') (hin' : (RulOwn 30 a1' c1' m1' a2' c2' m2' a3' c3' m3').In w) :
    Calls Try.prog 59 #[.agg #[.slice a1 m1.length c1, .slice a2 m2.length c2, .slice a3 m3.length c3], .agg #[.slice a1' m1'.length c1', .slice a2' m2'.length c2', .slice a3' m3'.length c3']] w (Ret (.bool (eqRul d1 d2 d3 e1 e2 e3)) w) := by
  obtain ⟨hi1, hi2, hi3⟩ := hi
  obtain ⟨hj1, hj2, hj3⟩ := hi'
  have hn1 := RulIn_1 hin
  have hn2 := RulIn_2 hin
  have hn3 := RulIn_3 hin
  have hp1 := RulIn_1 hin'
  have hp2 := RulIn_2 hin'
  have hp3 := RulIn_3 hin'
  clear hin hin'
  have HI1 := Lib.hid hi1; clear hi1; have HI2 := Lib.hid hi2; clear hi2; have HI3 := Lib.hid hi3; clear hi3; have HJ1 := Lib.hid hj1; clear hj1; have HJ2 := Lib.hid hj2; clear hj2; have HJ3 := Lib.hid hj3; clear hj3; have HN1 := Lib.hid hn1; clear hn1; have HN2 := Lib.hid hn2; clear hn2; have HN3 := Lib.hid hn3; clear hn3; have HP1 := Lib.hid hp1; clear hp1; have HP2 := Lib.hid hp2; clear hp2; have HP3 := Lib.hid hp3; clear hp3
  cases h1 : eqSLB d1 e1 with
  | false =>
    have hv : eqRul d1 d2 d3 e1 e2 e3 = false := by unfold eqRul; rw [h1]; rfl
    have HV := Lib.hid hv; clear hv
    go_enter Try.func59, Try.ntmps59
    go_wp2_with fail
    refine (l4SameList_calls d1 a1 c1 m1 e1 a1' c1' m1' _ HI1.out (HN1.out.below (by (repeat (first | with_reducible assumption | with_reducible exact Below.refl _ _ | with_reducible refine Below.drew ?_ | with_reducible refine belowDrewN ?_ _ | ((with_reducible refine Below.setCell ?_ ?_ _); rotate_left; focus (first | omega | (simp; done) | (simp; omega))) | ((with_reducible refine Below.alloc ?_ ?_ _); rotate_left; focus (first | omega | (simp; done) | (simp; omega))))))) HJ1.out (HP1.out.below (by (repeat (first | with_reducible assumption | with_reducible exact Below.refl _ _ | with_reducible refine Below.drew ?_ | with_reducible refine belowDrewN ?_ _ | ((with_reducible refine Below.setCell ?_ ?_ _); rotate_left; focus (first | omega | (simp; done) | (simp; omega))) | ((with_reducible refine Below.alloc ?_ ?_ _); rotate_left; focus (first | omega | (simp; done) | (simp; omega)))))))).mono ?_
    rintro e w1 ⟨rfl, hb1⟩
    go_wp2_with fail
    go_ret
    exact ⟨ret_b HV.out.symm, by (repeat (first | with_reducible assumption | with_reducible exact Below.refl _ _ | with_reducible refine Below.drew ?_ | with_reducible refine belowDrewN ?_ _ | ((with_reducible refine Below.setCell ?_ ?_ _); rotate_left; focus (first | omega | (simp; done) | (simp; omega))) | ((with_reducible refine Below.alloc ?_ ?_ _); rotate_left; focus (first | omega | (simp; done) | (simp; omega))) | ((with_reducible refine Below.trans ?_ (Below.mono hb1 ?_)); rotate_left; focus (first | omega | (simp; done) | (simp; omega)))))⟩
  | true =>
    cases h2 : eqSLB d2 e2 with
    | false =>
      have hv : eqRul d1 d2 d3 e1 e2 e3 = false := by unfold eqRul; rw [h1, h2]; rfl
      have HV := Lib.hid hv; clear hv
      go_enter Try.func59, Try.ntmps59
      go_wp2_with fail
      refine (l4SameList_calls d1 a1 c1 m1 e1 a1' c1' m1' _ HI1.out (HN1.out.below (by (repeat (first | with_reducible assumption | with_reducible exact Below.refl _ _ | with_reducible refine Below.drew ?_ | with_reducible refine belowDrewN ?_ _ | ((with_reducible refine Below.setCell ?_ ?_ _); rotate_left; focus (first | omega | (simp; done) | (simp; omega))) | ((with_reducible refine Below.alloc ?_ ?_ _); rotate_left; focus (first | omega | (simp; done) | (simp; omega))))))) HJ1.out (HP1.out.below (by (repeat (first | with_reducible assumption | with_reducible exact Below.refl _ _ | with_reducible refine Below.drew ?_ | with_reducible refine belowDrewN ?_ _ | ((with_reducible refine Below.setCell ?_ ?_ _); rotate_left; focus (first | omega | (simp; done) | (simp; omega))) | ((with_reducible refine Below.alloc ?_ ?_ _); rotate_left; focus (first | omega | (simp; done) | (simp; omega)))))))).mono ?_
      rintro e w1 ⟨rfl, hb1⟩
      obtain ⟨hc1, hf1⟩ := bcell hb1; have hz1 := hb1.size; (try simp only [World.size_alloc, World.size_setCell, World.size_drew, sizeDrewN] at hz1 hc1 hf1); have hp1_0 : w.heap.size < w1.heap.size := (by omega); have hp1_1 : w.heap.size + 1 < w1.heap.size := (by omega)
      go_wp2_with fail
      refine (l4SameList_calls d2 a2 c2 m2 e2 a2' c2' m2' _ HI2.out (HN2.out.below (by (repeat (first | with_reducible assumption | with_reducible exact Below.refl _ _ | with_reducible refine Below.drew ?_ | with_reducible refine belowDrewN ?_ _ | ((with_reducible refine Below.setCell ?_ ?_ _); rotate_left; focus (first | omega | (simp; done) | (simp; omega))) | ((with_reducible refine Below.alloc ?_ ?_ _); rotate_left; focus (first | omega | (simp; done) | (simp; omega))) | ((with_reducible refine Below.trans ?_ (Below.mono hb1 ?_)); rotate_left; focus (first | omega | (simp; done) | (simp; omega))))))) HJ2.out (HP2.out.below (by (repeat (first | with_reducible assumption | with_reducible exact Below.refl _ _ | with_reducible refine Below.drew ?_ | with_reducible refine belowDrewN ?_ _ | ((with_reducible refine Below.setCell ?_ ?_ _); rotate_left; focus (first | omega | (simp; done) | (simp; omega))) | ((with_reducible refine Below.alloc ?_ ?_ _); rotate_left; focus (first | omega | (simp; done) | (simp; omega))) | ((with_reducible refine Below.trans ?_ (Below.mono hb1 ?_)); rotate_left; focus (first | omega | (simp; done) | (simp; omega)))))))).mono ?_
      rintro e w2 ⟨rfl, hb2⟩
      go_wp2_with fail
      go_ret
      exact ⟨ret_b HV.out.symm, by (repeat (first | with_reducible assumption | with_reducible exact Below.refl _ _ | with_reducible refine Below.drew ?_ | with_reducible refine belowDrewN ?_ _ | ((with_reducible refine Below.setCell ?_ ?_ _); rotate_left; focus (first | omega | (simp; done) | (simp; omega))) | ((with_reducible refine Below.alloc ?_ ?_ _); rotate_left; focus (first | omega | (simp; done) | (simp; omega))) | ((with_reducible refine Below.trans ?_ (Below.mono hb1 ?_)); rotate_left; focus (first | omega | (simp; done) | (simp; omega))) | ((with_reducible refine Below.trans ?_ (Below.mono hb2 ?_)); rotate_left; focus (first | omega | (simp; done) | (simp; omega)))))⟩
    | true =>
      have hv : eqRul d1 d2 d3 e1 e2 e3 = eqSLB d3 e3 := by unfold eqRul; rw [h1, h2]; rfl
      have HV := Lib.hid hv; clear hv
      go_enter Try.func59, Try.ntmps59
      go_wp2_with fail
      refine (l4SameList_calls d1 a1 c1 m1 e1 a1' c1' m1' _ HI1.out (HN1.out.below (by (repeat (first | with_reducible assumption | with_reducible exact Below.refl _ _ | with_reducible refine Below.drew ?_ | with_reducible refine belowDrewN ?_ _ | ((with_reducible refine Below.setCell ?_ ?_ _); rotate_left; focus (first | omega | (simp; done) | (simp; omega))) | ((with_reducible refine Below.alloc ?_ ?_ _); rotate_left; focus (first | omega | (simp; done) | (simp; omega))))))) HJ1.out (HP1.out.below (by (repeat (first | with_reducible assumption | with_reducible exact Below.refl _ _ | with_reducible refine Below.drew ?_ | with_reducible refine belowDrewN ?_ _ | ((with_reducible refine Below.setCell ?_ ?_ _); rotate_left; focus (first | omega | (simp; done) | (simp; omega))) | ((with_reducible refine Below.alloc ?_ ?_ _); rotate_left; focus (first | omega | (simp; done) | (simp; omega)))))))).mono ?_
      rintro e w1 ⟨rfl, hb1⟩
      obtain ⟨hc1, hf1⟩ := bcell hb1; have hz1 := hb1.size; (try simp only [World.size_alloc, World.size_setCell, World.size_drew, sizeDrewN] at hz1 hc1 hf1); have hp1_0 : w.heap.size < w1.heap.size := (by omega); have hp1_1 : w.heap.size + 1 < w1.heap.size := (by omega)
      go_wp2_with fail
      refine (l4SameList_calls d2 a2 c2 m2 e2 a2' c2' m2' _ HI2.out (HN2.out.below (by (repeat (first | with_reducible assumption | with_reducible exact Below.refl _ _ | with_reducible refine Below.drew ?_ | with_reducible refine belowDrewN ?_ _ | ((with_reducible refine Below.setCell ?_ ?_ _); rotate_left; focus (first | omega | (simp; done) | (simp; omega))) | ((with_reducible refine Below.alloc ?_ ?_ _); rotate_left; focus (first | omega | (simp; done) | (simp; omega))) | ((with_reducible refine Below.trans ?_ (Below.mono hb1 ?_)); rotate_left; focus (first | omega | (simp; done) | (simp; omega))))))) HJ2.out (HP2.out.below (by (repeat (first | with_reducible assumption | with_reducible exact Below.refl _ _ | with_reducible refine Below.drew ?_ | with_reducible refine belowDrewN ?_ _ | ((with_reducible refine Below.setCell ?_ ?_ _); rotate_left; focus (first | omega | (simp; done) | (simp; omega))) | ((with_reducible refine Below.alloc ?_ ?_ _); rotate_left; focus (first | omega | (simp; done) | (simp; omega))) | ((with_reducible refine Below.trans ?_ (Below.mono hb1 ?_)); rotate_left; focus (first | omega | (simp; done) | (simp; omega)))))))).mono ?_
      rintro e w2 ⟨rfl, hb2⟩
      obtain ⟨hc2, hf2⟩ := bcell hb2; have hz2 := hb2.size; (try simp only [World.size_alloc, World.size_setCell, World.size_drew, sizeDrewN] at hz2 hc2 hf2); have hp2_0 : w.heap.size < w2.heap.size := (by omega); have hp2_1 : w.heap.size + 1 < w2.heap.size := (by omega)
      go_wp2_with fail
      refine (l4SameList_calls d3 a3 c3 m3 e3 a3' c3' m3' _ HI3.out (HN3.out.below (by (repeat (first | with_reducible assumption | with_reducible exact Below.refl _ _ | with_reducible refine Below.drew ?_ | with_reducible refine belowDrewN ?_ _ | ((with_reducible refine Below.setCell ?_ ?_ _); rotate_left; focus (first | omega | (simp; done) | (simp; omega))) | ((with_reducible refine Below.alloc ?_ ?_ _); rotate_left; focus (first | omega | (simp; done) | (simp; omega))) | ((with_reducible refine Below.trans ?_ (Below.mono hb1 ?_)); rotate_left; focus (first | omega | (simp; done) | (simp; omega))) | ((with_reducible refine Below.trans ?_ (Below.mono hb2 ?_)); rotate_left; focus (first | omega | (simp; done) | (simp; omega))))))) HJ3.out (HP3.out.below (by (repeat (first | with_reducible assumption | with_reducible exact Below.refl _ _ | with_reducible refine Below.drew ?_ | with_reducible refine belowDrewN ?_ _ | ((with_reducible refine Below.setCell ?_ ?_ _); rotate_left; focus (first | omega | (simp; done) | (simp; omega))) | ((with_reducible refine Below.alloc ?_ ?_ _); rotate_left; focus (first | omega | (simp; done) | (simp; omega))) | ((with_reducible refine Below.trans ?_ (Below.mono hb1 ?_)); rotate_left; focus (first | omega | (simp; done) | (simp; omega))) | ((with_reducible refine Below.trans ?_ (Below.mono hb2 ?_)); rotate_left; focus (first | omega | (simp; done) | (simp; omega)))))))).mono ?_
      rintro e w3 ⟨rfl, hb3⟩
      go_wp2_with fail
      go_ret
      exact ⟨ret_b HV.out.symm, by (repeat (first | with_reducible assumption | with_reducible exact Below.refl _ _ | with_reducible refine Below.drew ?_ | with_reducible refine belowDrewN ?_ _ | ((with_reducible refine Below.setCell ?_ ?_ _); rotate_left; focus (first | omega | (simp; done) | (simp; omega))) | ((with_reducible refine Below.alloc ?_ ?_ _); rotate_left; focus (first | omega | (simp; done) | (simp; omega))) | ((with_reducible refine Below.trans ?_ (Below.mono hb1 ?_)); rotate_left; focus (first | omega | (simp; done) | (simp; omega))) | ((with_reducible refine Below.trans ?_ (Below.mono hb2 ?_)); rotate_left; focus (first | omega | (simp; done) | (simp; omega))) | ((with_reducible refine Below.trans ?_ (Below.mono hb3 ?_)); rotate_left; focus (first | omega | (simp; done) | (simp; omega)))))⟩
theorem iEqualRules_calls (d1 d2 d3 : List Syn) (a1 : Option Addr) (c1 : Nat) (m1 : List M) (a2 : Option Addr) (c2 : Nat) (m2 : List M) (a3 : Option Addr) (c3 : Nat) (m3 : List M) (e1 e2 e3 : List Syn) (a1' : Option Addr) (c1' : Nat) (m1' : List M) (a2' : Option Addr) (c2' : Nat) (m2' : List M) (a3' : Option Addr) (c3' : Nat) (m3' : List M) (w : World)
    (hi : RulIs 30 d1 d2 d3 m1 m2 m3) (hin : (RulOwn 30 a1 c1 m1 a2 c2 m2 a3 c3 m3).In w) (hi' : RulIs 30 e1 e2 e3 m1' m2' m3') (hin' : (RulOwn 30 a1' c1' m1' a2' c2' m2' a3' c3' m3').In w) :
    Calls Try.prog 61 #[.agg #[.slice a1 m1.length c1, .slice a2 m2.length c2, .slice a3 m3.length c3], .agg #[.slice a1' m1'.length c1', .slice a2' m2'.length c2', .slice a3' m3'.length c3']] w (Ret (.bool (eqRul d1 d2 d3 e1 e2 e3)) w) := by
  obtain ⟨hi1, hi2, hi3⟩ := hi
  obtain ⟨hj1, hj2, hj3⟩ := hi'
  have hn1 := RulIn_1 hin
  have hn2 := RulIn_2 hin
  have hn3 := RulIn_3 hin
  have hp1 := RulIn_1 hin'
  have hp2 := RulIn_2 hin'
  have hp3 := RulIn_3 hin'
  clear hin hin'
  have HI1 := Lib.hid hi1; clear hi1; have HI2 := Lib.hid hi2; clear hi2; have HI3 := Lib.hid hi3; clear hi3; have HJ1 := Lib.hid hj1; clear hj1; have HJ2 := Lib.hid hj2; clear hj2; have HJ3 := Lib.hid hj3; clear hj3; have HN1 := Lib.hid hn1; clear hn1; have HN2 := Lib.hid hn2; clear hn2; have HN3 := Lib.hid hn3; clear hn3; have HP1 := Lib.hid hp1; clear hp1; have HP2 := Lib.hid hp2; clear hp2; have HP3 := Lib.hid hp3; clear hp3
  cases h1 : eqSLB d1 e1 with
  | false =>
    have hv : eqRul d1 d2 d3 e1 e2 e3 = false := by unfold eqRul; rw [h1]; rfl
    have HV := Lib.hid hv; clear hv
    go_enter Try.func61, Try.ntmps61
    go_wp2_with fail
    refine (equalSyntaxes_calls d1 a1 c1 m1 e1 a1' c1' m1' _ HI1.out (HN1.out.below (by (repeat (first | with_reducible assumption | with_reducible exact Below.refl _ _ | with_reducible refine Below.drew ?_ | with_reducible refine belowDrewN ?_ _ | ((with_reducible refine Below.setCell ?_ ?_ _); rotate_left; focus (first | omega | (simp; done) | (simp; omega))) | ((with_reducible refine Below.alloc ?_ ?_ _); rotate_left; focus (first | omega | (simp; done) | (simp; omega))))))) HJ1.out (HP1.out.below (by (repeat (first | with_reducible assumption | with_reducible exact Below.refl _ _ | with_reducible refine Below.drew ?_ | with_reducible refine belowDrewN ?_ _ | ((with_reducible refine Below.setCell ?_ ?_ _); rotate_left; focus (first | omega | (simp; done) | (simp; omega))) | ((with_reducible refine Below.alloc ?_ ?_ _); rotate_left; focus (first | omega | (simp; done) | (simp; omega)))))))).mono ?_
    rintro e w1 ⟨rfl, hb1⟩
    go_wp2_with fail
    go_ret
    exact ⟨ret_b HV.out.symm, by (repeat (first | with_reducible assumption | with_reducible exact Below.refl _ _ | with_reducible refine Below.drew ?_ | with_reducible refine belowDrewN ?_ _ | ((with_reducible refine Below.setCell ?_ ?_ _); rotate_left; focus (first | omega | (simp; done) | (simp; omega))) | ((with_reducible refine Below.alloc ?_ ?_ _); rotate_left; focus (first | omega | (simp; done) | (simp; omega))) | ((with_reducible refine Below.trans ?_ (Below.mono hb1 ?_)); rotate_left; focus (first | omega | (simp; done) | (simp; omega)))))⟩
  | true =>
    cases h2 : eqSLB d2 e2 with
    | false =>
      have hv : eqRul d1 d2 d3 e1 e2 e3 = false := by unfold eqRul; rw [h1, h2]; rfl
      have HV := Lib.hid hv; clear hv
      go_enter Try.func61, Try.ntmps61
      go_wp2_with fail
      refine (equalSyntaxes_calls d1 a1 c1 m1 e1 a1' c1' m1' _ HI1.out (HN1.out.below (by (repeat (first | with_reducible assumption | with_reducible exact Below.refl _ _ | with_reducible refine Below.drew ?_ | with_reducible refine belowDrewN ?_ _ | ((with_reducible refine Below.setCell ?_ ?_ _); rotate_left; focus (first | omega | (simp; done) | (simp; omega))) | ((with_reducible refine Below.alloc ?_ ?_ _); rotate_left; focus (first | omega | (simp; done) | (simp; omega))))))) HJ1.out (HP1.out.below (by (repeat (first | with_reducible assumption | with_reducible exact Below.refl _ _ | with_reducible refine Below.drew ?_ | with_reducible refine belowDrewN ?_ _ | ((with_reducible refine Below.setCell ?_ ?_ _); rotate_left; focus (first | omega | (simp; done) | (simp; omega))) | ((with_reducible refine Below.alloc ?_ ?_ _); rotate_left; focus (first | omega | (simp; done) | (simp; omega)))))))).mono ?_
      rintro e w1 ⟨rfl, hb1⟩
      obtain ⟨hc1, hf1⟩ := bcell hb1; have hz1 := hb1.size; (try simp only [World.size_alloc, World.size_setCell, World.size_drew, sizeDrewN] at hz1 hc1 hf1); have hp1_0 : w.heap.size < w1.heap.size := (by omega); have hp1_1 : w.heap.size + 1 < w1.heap.size := (by omega)
      go_wp2_with fail
      refine (equalSyntaxes_calls d2 a2 c2 m2 e2 a2' c2' m2' _ HI2.out (HN2.out.below (by (repeat (first | with_reducible assumption | with_reducible exact Below.refl _ _ | with_reducible refine Below.drew ?_ | with_reducible refine belowDrewN ?_ _ | ((with_reducible refine Below.setCell ?_ ?_ _); rotate_left; focus (first | omega | (simp; done) | (simp; omega))) | ((with_reducible refine Below.alloc ?_ ?_ _); rotate_left; focus (first | omega | (simp; done) | (simp; omega))) | ((with_reducible refine Below.trans ?_ (Below.mono hb1 ?_)); rotate_left; focus (first | omega | (simp; done) | (simp; omega))))))) HJ2.out (HP2.out.below (by (repeat (first | with_reducible assumption | with_reducible exact Below.refl _ _ | with_reducible refine Below.drew ?_ | with_reducible refine belowDrewN ?_ _ | ((with_reducible refine Below.setCell ?_ ?_ _); rotate_left; focus (first | omega | (simp; done) | (simp; omega))) | ((with_reducible refine Below.alloc ?_ ?_ _); rotate_left; focus (first | omega | (simp; done) | (simp; omega))) | ((with_reducible refine Below.trans ?_ (Below.mono hb1 ?_)); rotate_left; focus (first | omega | (simp; done) | (simp; omega)))))))).mono ?_
      rintro e w2 ⟨rfl, hb2⟩
      go_wp2_with fail
      go_ret
      exact ⟨ret_b HV.out.symm, by (repeat (first | with_reducible assumption | with_reducible exact Below.refl _ _ | with_reducible refine Below.drew ?_ | with_reducible refine belowDrewN ?_ _ | ((with_reducible refine Below.setCell ?_ ?_ _); rotate_left; focus (first | omega | (simp; done) | (simp; omega))) | ((with_reducible refine Below.alloc ?_ ?_ _); rotate_left; focus (first | omega | (simp; done) | (simp; omega))) | ((with_reducible refine Below.trans ?_ (Below.mono hb1 ?_)); rotate_left; focus (first | omega | (simp; done) | (simp; omega))) | ((with_reducible refine Below.trans ?_ (Below.mono hb2 ?_)); rotate_left; focus (first | omega | (simp; done) | (simp; omega)))))⟩
    | true =>
      have hv : eqRul d1 d2 d3 e1 e2 e3 = eqSLB d3 e3 := by unfold eqRul; rw [h1, h2]; rfl
      have HV := Lib.hid hv; clear hv
      go_enter Try.func61, Try.ntmps61
      go_wp2_with fail
      refine (equalSyntaxes_calls d1 a1 c1 m1 e1 a1' c1' m1' _ HI1.out (HN1.out.below (by (repeat (first | with_reducible assumption | with_reducible exact Below.refl _ _ | with_reducible refine Below.drew ?_ | with_reducible refine belowDrewN ?_ _ | ((with_reducible refine Below.setCell ?_ ?_ _); rotate_left; focus (first | omega | (simp; done) | (simp; omega))) | ((with_reducible refine Below.alloc ?_ ?_ _); rotate_left; focus (first | omega | (simp; done) | (simp; omega))))))) HJ1.out (HP1.out.below (by (repeat (first | with_reducible assumption | with_reducible exact Below.refl _ _ | with_reducible refine Below.drew ?_ | with_reducible refine belowDrewN ?_ _ | ((with_reducible refine Below.setCell ?_ ?_ _); rotate_left; focus (first | omega | (simp; done) | (simp; omega))) | ((with_reducible refine Below.alloc ?_ ?_ _); rotate_left; focus (first | omega | (simp; done) | (simp; omega)))))))).mono ?_
      rintro e w1 ⟨rfl, hb1⟩
      obtain ⟨hc1, hf1⟩ := bcell hb1; have hz1 := hb1.size; (try simp only [World.size_alloc, World.size_setCell, World.size_drew, sizeDrewN] at hz1 hc1 hf1); have hp1_0 : w.heap.size < w1.heap.size := (by omega); have hp1_1 : w.heap.size + 1 < w1.heap.size := (by omega)
      go_wp2_with fail
      refine (equalSyntaxes_calls d2 a2 c2 m2 e2 a2' c2' m2' _ HI2.out (HN2.out.below (by (repeat (first | with_reducible assumption | with_reducible exact Below.refl _ _ | with_reducible refine Below.drew ?_ | with_reducible refine belowDrewN ?_ _ | ((with_reducible refine Below.setCell ?_ ?_ _); rotate_left; focus (first | omega | (simp; done) | (simp; omega))) | ((with_reducible refine Below.alloc ?_ ?_ _); rotate_left; focus (first | omega | (simp; done) | (simp; omega))) | ((with_reducible refine Below.trans ?_ (Below.mono hb1 ?_)); rotate_left; focus (first | omega | (simp; done) | (simp; omega))))))) HJ2.out (HP2.out.below (by (repeat (first | with_reducible assumption | with_reducible exact Below.refl _ _ | with_reducible refine Below.drew ?_ | with_reducible refine belowDrewN ?_ _ | ((with_reducible refine Below.setCell ?_ ?_ _); rotate_left; focus (first | omega | (simp; done) | (simp; omega))) | ((with_reducible refine Below.alloc ?_ ?_ _); rotate_left; focus (first | omega | (simp; done) | (simp; omega))) | ((with_reducible refine Below.trans ?_ (Below.mono hb1 ?_)); rotate_left; focus (first | omega | (simp; done) | (simp; omega)))))))).mono ?_
      rintro e w2 ⟨rfl, hb2⟩
      obtain ⟨hc2, hf2⟩ := bcell hb2; have hz2 := hb2.size; (try simp only [World.size_alloc, World.size_setCell, World.size_drew, sizeDrewN] at hz2 hc2 hf2); have hp2_0 : w.heap.size < w2.heap.size := (by omega); have hp2_1 : w.heap.size + 1 < w2.heap.size := (by omega)
      go_wp2_with fail
      refine (equalSyntaxes_calls d3 a3 c3 m3 e3 a3' c3' m3' _ HI3.out (HN3.out.below (by (repeat (first | with_reducible assumption | with_reducible exact Below.refl _ _ | with_reducible refine Below.drew ?_ | with_reducible refine belowDrewN ?_ _ | ((with_reducible refine Below.setCell ?_ ?_ _); rotate_left; focus (first | omega | (simp; done) | (simp; omega))) | ((with_reducible refine Below.alloc ?_ ?_ _); rotate_left; focus (first | omega | (simp; done) | (simp; omega))) | ((with_reducible refine Below.trans ?_ (Below.mono hb1 ?_)); rotate_left; focus (first | omega | (simp; done) | (simp; omega))) | ((with_reducible refine Below.trans ?_ (Below.mono hb2 ?_)); rotate_left; focus (first | omega | (simp; done) | (simp; omega))))))) HJ3.out (HP3.out.below (by (repeat (first | with_reducible assumption | with_reducible exact Below.refl _ _ | with_reducible refine Below.drew ?_ | with_reducible refine belowDrewN ?_ _ | ((with_reducible refine Below.setCell ?_ ?_ _); rotate_left; focus (first | omega | (simp; done) | (simp; omega))) | ((with_reducible refine Below.alloc ?_ ?_ _); rotate_left; focus (first | omega | (simp; done) | (simp; omega))) | ((with_reducible refine Below.trans ?_ (Below.mono hb1 ?_)); rotate_left; focus (first | omega | (simp; done) | (simp; omega))) | ((with_reducible refine Below.trans ?_ (Below.mono hb2 ?_)); rotate_left; focus (first | omega | (simp; done) | (simp; omega)))))))).mono ?_
      rintro e w3 ⟨rfl, hb3⟩
      go_wp2_with fail
      go_ret
      exact ⟨ret_b HV.out.symm, by (repeat (first | with_reducible assumption | with_reducible exact Below.refl _ _ | with_reducible refine Below.drew ?_ | with_reducible refine belowDrewN ?_ _ | ((with_reducible refine Below.setCell ?_ ?_ _); rotate_left; focus (first | omega | (simp; done) | (simp; omega))) | ((with_reducible refine Below.alloc ?_ ?_ _); rotate_left; focus (first | omega | (simp; done) | (simp; omega))) | ((with_reducible refine Below.trans ?_ (Below.mono hb1 ?_)); rotate_left; focus (first | omega | (simp; done) | (simp; omega))) | ((with_reducible refine Below.trans ?_ (Below.mono hb2 ?_)); rotate_left; focus (first | omega | (simp; done) | (simp; omega))) | ((with_reducible refine Below.trans ?_ (Below.mono hb3 ?_)); rotate_left; focus (first | omega | (simp; done) | (simp; omega)))))⟩
end Go.Proofs.Ytdfekdeojahmmab
