/-
  Walks: EqualBindings. No condition.
-/
import Derived.Test.YtdfekdeojahmmaaG2
import Derived.Test.YtdfekdeojahmmaaY6
set_option linter.unusedVariables false
set_option linter.unusedSimpArgs false
set_option maxRecDepth 100000
namespace Go.Proofs.Ytdfekdeojahmmaa
open Go.RowKit

open Classical in
noncomputable def eqBL (x y : List Bnd) : Bool := decide (x = y)
theorem eqBL_iff (x y : List Bnd) : eqBL x y = true ↔ x = y := by simp [eqBL]
theorem eqBL_not (x y : List Bnd) : eqBL x y = false ↔ ¬ x = y := by simp [eqBL]
theorem int_ne {a b : Int} (h : ¬ a = b) : (a != b) = true := by simp [h]
set_option maxHeartbeats 1000000 in
theorem sEqualBindings_calls (ds : List Bnd) (a : Option Addr) (cap : Nat) (ms : List M) (ds' : List Bnd) (a' : Option Addr) (cap' : Nat) (ms' : List M) (w : World) (hi : Bnd.IsL ds ms) (hin : (M.sl a cap 4 45 ms).In w) (hi' : Bnd.IsL ds' ms') (hin' : (M.sl a' cap' 4 45 ms').In w) :
    Calls Try.prog 44 #[.slice a ms.length cap, .slice a' ms'.length cap'] w (Ret (.bool (eqBL ds ds')) w) := by
  have hln := hi.length
  have hln' := hi'.length
  have hcapm := hin.len
  have hcapm' := hin'.len
  by_cases hl : ms.length = ms'.length
  · have hl' : ((ms.length : Int) != (ms'.length : Int)) = false := by simp [hl]
    have HIN := Lib.hid hin; clear hin; have HI := Lib.hid hi; clear hi; have HIN' := Lib.hid hin'; clear hin'; have HI' := Lib.hid hi'; clear hi'; have HLN := Lib.hid hln; clear hln; have HLN' := Lib.hid hln'; clear hln'; have HL := Lib.hid hl; clear hl
    go_enter Try.func44, Try.ntmps44
    go_wp2_with fail
    go_loopw [13] (fun i wr => ∃ j : Nat, j ≤ ms.length ∧ i = .int .i64 j ∧ ds.take j = ds'.take j ∧ Below w.heap.size w wr ∧ w.heap.size ≤ wr.heap.size) (fun i _ => ms.length - (intOf i).toNat)
    case atStart => exact ⟨0, Nat.zero_le _, rfl, by simp, Below.refl _ _, Nat.le_refl _⟩
    case round =>
      obtain ⟨j, hj, rfl, hpre, hb, hsz⟩ := hrel
      by_cases hlt : j < ms.length
      · have hlt' : j < ms'.length := by have := HL.out; omega
        obtain ⟨b, off, s1, x1, k1, n1, xa1, xc1, rfl, hd, hx1, c0, c1, c2, c3⟩ := Bnd.elem (HIN.out.below hb) HI.out j hlt
        obtain ⟨b', off', s1', x1', k1', n1', xa1', xc1', rfl, hd', hx1', c0', c1', c2', c3'⟩ := Bnd.elem (HIN'.out.below hb) HI'.out j hlt'
        have hbl := World.block_lt_of_cell? wr _ c0
        have hbl' := World.block_lt_of_cell? wr _ c0'
        by_cases heq : Bnd.mk s1 x1 k1 n1 = Bnd.mk s1' x1' k1' n1'
        · have hpre2 := take_eq_succ hpre hd hd' heq
          simp only [Bnd.mk.injEq] at heq
          obtain ⟨rfl, rfl, rfl, rfl⟩ := heq
          have hsx : eqL x1 x1 = true := (eqL_iff _ _).2 rfl
          have HD := Lib.hid hd; clear hd; have HD' := Lib.hid hd'; clear hd'; have HPRE := Lib.hid hpre; clear hpre; have HPRE2 := Lib.hid hpre2; clear hpre2; have HX1 := Lib.hid hx1; clear hx1; have HX1' := Lib.hid hx1'; clear hx1'
          go_wp2_with fail
          go_quiet (first | (go_at_call 105; refine Calls.quiet_of (l2SameInts_q xa1 xc1 x1 xa1' xc1' x1 _ (HX1.out.below (by (repeat (first | with_reducible assumption | with_reducible exact Below.refl _ _ | with_reducible refine Below.drew ?_ | with_reducible refine belowDrewN ?_ _ | ((with_reducible refine Below.setCell ?_ ?_ _); rotate_left; focus (first | omega | (simp; done) | (simp; omega))) | ((with_reducible refine Below.alloc ?_ ?_ _); rotate_left; focus (first | omega | (simp; done) | (simp; omega))))))) (HX1'.out.below (by (repeat (first | with_reducible assumption | with_reducible exact Below.refl _ _ | with_reducible refine Below.drew ?_ | with_reducible refine belowDrewN ?_ _ | ((with_reducible refine Below.setCell ?_ ?_ _); rotate_left; focus (first | omega | (simp; done) | (simp; omega))) | ((with_reducible refine Below.alloc ?_ ?_ _); rotate_left; focus (first | omega | (simp; done) | (simp; omega))))))))))
          go_wp2_with fail
          go_roundw
          case rel => exact ⟨j + 1, by omega, by go_num, HPRE2.out, belowDrewN hb _, hsz⟩
          case measure => simp [intOf]; omega
        · have hne := ne_of_get hd hd' heq
          by_cases hs : s1 = s1'
          · subst hs
            by_cases hx : x1 = x1'
            · subst hx
              have hsx : eqL x1 x1 = true := (eqL_iff _ _).2 rfl
              by_cases hk : k1 = k1'
              · subst hk
                have hn : ¬ n1 = n1' := fun h => heq (by rw [h])
                have hn' := int_ne hn
                have HD := Lib.hid hd; clear hd; have HD' := Lib.hid hd'; clear hd'; have HPRE := Lib.hid hpre; clear hpre; have HNE := Lib.hid hne; clear hne; have HX1 := Lib.hid hx1; clear hx1; have HX1' := Lib.hid hx1'; clear hx1'; have HEQ := Lib.hid heq; clear heq; have HN := Lib.hid hn; clear hn
                go_wp2_with fail
                go_quiet (first | (go_at_call 105; refine Calls.quiet_of (l2SameInts_q xa1 xc1 x1 xa1' xc1' x1 _ (HX1.out.below (by (repeat (first | with_reducible assumption | with_reducible exact Below.refl _ _ | with_reducible refine Below.drew ?_ | with_reducible refine belowDrewN ?_ _ | ((with_reducible refine Below.setCell ?_ ?_ _); rotate_left; focus (first | omega | (simp; done) | (simp; omega))) | ((with_reducible refine Below.alloc ?_ ?_ _); rotate_left; focus (first | omega | (simp; done) | (simp; omega))))))) (HX1'.out.below (by (repeat (first | with_reducible assumption | with_reducible exact Below.refl _ _ | with_reducible refine Below.drew ?_ | with_reducible refine belowDrewN ?_ _ | ((with_reducible refine Below.setCell ?_ ?_ _); rotate_left; focus (first | omega | (simp; done) | (simp; omega))) | ((with_reducible refine Below.alloc ?_ ?_ _); rotate_left; focus (first | omega | (simp; done) | (simp; omega))))))))))
                go_wp2_with fail
                go_ret
                exact ⟨ret_b ((eqBL_not _ _).2 HNE.out).symm, belowDrewN hb _⟩
              · have hk' := int_ne hk
                have HD := Lib.hid hd; clear hd; have HD' := Lib.hid hd'; clear hd'; have HPRE := Lib.hid hpre; clear hpre; have HNE := Lib.hid hne; clear hne; have HX1 := Lib.hid hx1; clear hx1; have HX1' := Lib.hid hx1'; clear hx1'; have HEQ := Lib.hid heq; clear heq; have HK := Lib.hid hk; clear hk
                go_wp2_with fail
                go_quiet (first | (go_at_call 105; refine Calls.quiet_of (l2SameInts_q xa1 xc1 x1 xa1' xc1' x1 _ (HX1.out.below (by (repeat (first | with_reducible assumption | with_reducible exact Below.refl _ _ | with_reducible refine Below.drew ?_ | with_reducible refine belowDrewN ?_ _ | ((with_reducible refine Below.setCell ?_ ?_ _); rotate_left; focus (first | omega | (simp; done) | (simp; omega))) | ((with_reducible refine Below.alloc ?_ ?_ _); rotate_left; focus (first | omega | (simp; done) | (simp; omega))))))) (HX1'.out.below (by (repeat (first | with_reducible assumption | with_reducible exact Below.refl _ _ | with_reducible refine Below.drew ?_ | with_reducible refine belowDrewN ?_ _ | ((with_reducible refine Below.setCell ?_ ?_ _); rotate_left; focus (first | omega | (simp; done) | (simp; omega))) | ((with_reducible refine Below.alloc ?_ ?_ _); rotate_left; focus (first | omega | (simp; done) | (simp; omega))))))))))
                go_wp2_with fail
                go_ret
                exact ⟨ret_b ((eqBL_not _ _).2 HNE.out).symm, belowDrewN hb _⟩
            · have hsx : eqL x1 x1' = false := (eqL_not _ _).2 hx
              by_cases hk : k1 = k1'
              · subst hk
                by_cases hn : n1 = n1'
                · subst hn
                  have HD := Lib.hid hd; clear hd; have HD' := Lib.hid hd'; clear hd'; have HPRE := Lib.hid hpre; clear hpre; have HNE := Lib.hid hne; clear hne; have HX1 := Lib.hid hx1; clear hx1; have HX1' := Lib.hid hx1'; clear hx1'; have HEQ := Lib.hid heq; clear heq; have HX := Lib.hid hx; clear hx
                  go_wp2_with fail
                  go_quiet (first | (go_at_call 105; refine Calls.quiet_of (l2SameInts_q xa1 xc1 x1 xa1' xc1' x1' _ (HX1.out.below (by (repeat (first | with_reducible assumption | with_reducible exact Below.refl _ _ | with_reducible refine Below.drew ?_ | with_reducible refine belowDrewN ?_ _ | ((with_reducible refine Below.setCell ?_ ?_ _); rotate_left; focus (first | omega | (simp; done) | (simp; omega))) | ((with_reducible refine Below.alloc ?_ ?_ _); rotate_left; focus (first | omega | (simp; done) | (simp; omega))))))) (HX1'.out.below (by (repeat (first | with_reducible assumption | with_reducible exact Below.refl _ _ | with_reducible refine Below.drew ?_ | with_reducible refine belowDrewN ?_ _ | ((with_reducible refine Below.setCell ?_ ?_ _); rotate_left; focus (first | omega | (simp; done) | (simp; omega))) | ((with_reducible refine Below.alloc ?_ ?_ _); rotate_left; focus (first | omega | (simp; done) | (simp; omega))))))))))
                  go_wp2_with fail
                  go_ret
                  exact ⟨ret_b ((eqBL_not _ _).2 HNE.out).symm, belowDrewN hb _⟩
                · have hn' := int_ne hn
                  have HD := Lib.hid hd; clear hd; have HD' := Lib.hid hd'; clear hd'; have HPRE := Lib.hid hpre; clear hpre; have HNE := Lib.hid hne; clear hne; have HX1 := Lib.hid hx1; clear hx1; have HX1' := Lib.hid hx1'; clear hx1'; have HEQ := Lib.hid heq; clear heq; have HX := Lib.hid hx; clear hx; have HN := Lib.hid hn; clear hn
                  go_wp2_with fail
                  go_quiet (first | (go_at_call 105; refine Calls.quiet_of (l2SameInts_q xa1 xc1 x1 xa1' xc1' x1' _ (HX1.out.below (by (repeat (first | with_reducible assumption | with_reducible exact Below.refl _ _ | with_reducible refine Below.drew ?_ | with_reducible refine belowDrewN ?_ _ | ((with_reducible refine Below.setCell ?_ ?_ _); rotate_left; focus (first | omega | (simp; done) | (simp; omega))) | ((with_reducible refine Below.alloc ?_ ?_ _); rotate_left; focus (first | omega | (simp; done) | (simp; omega))))))) (HX1'.out.below (by (repeat (first | with_reducible assumption | with_reducible exact Below.refl _ _ | with_reducible refine Below.drew ?_ | with_reducible refine belowDrewN ?_ _ | ((with_reducible refine Below.setCell ?_ ?_ _); rotate_left; focus (first | omega | (simp; done) | (simp; omega))) | ((with_reducible refine Below.alloc ?_ ?_ _); rotate_left; focus (first | omega | (simp; done) | (simp; omega))))))))))
                  go_wp2_with fail
                  go_ret
                  exact ⟨ret_b ((eqBL_not _ _).2 HNE.out).symm, belowDrewN hb _⟩
              · have hk' := int_ne hk
                have HD := Lib.hid hd; clear hd; have HD' := Lib.hid hd'; clear hd'; have HPRE := Lib.hid hpre; clear hpre; have HNE := Lib.hid hne; clear hne; have HX1 := Lib.hid hx1; clear hx1; have HX1' := Lib.hid hx1'; clear hx1'; have HEQ := Lib.hid heq; clear heq; have HX := Lib.hid hx; clear hx; have HK := Lib.hid hk; clear hk
                go_wp2_with fail
                go_quiet (first | (go_at_call 105; refine Calls.quiet_of (l2SameInts_q xa1 xc1 x1 xa1' xc1' x1' _ (HX1.out.below (by (repeat (first | with_reducible assumption | with_reducible exact Below.refl _ _ | with_reducible refine Below.drew ?_ | with_reducible refine belowDrewN ?_ _ | ((with_reducible refine Below.setCell ?_ ?_ _); rotate_left; focus (first | omega | (simp; done) | (simp; omega))) | ((with_reducible refine Below.alloc ?_ ?_ _); rotate_left; focus (first | omega | (simp; done) | (simp; omega))))))) (HX1'.out.below (by (repeat (first | with_reducible assumption | with_reducible exact Below.refl _ _ | with_reducible refine Below.drew ?_ | with_reducible refine belowDrewN ?_ _ | ((with_reducible refine Below.setCell ?_ ?_ _); rotate_left; focus (first | omega | (simp; done) | (simp; omega))) | ((with_reducible refine Below.alloc ?_ ?_ _); rotate_left; focus (first | omega | (simp; done) | (simp; omega))))))))))
                go_wp2_with fail
                go_ret
                exact ⟨ret_b ((eqBL_not _ _).2 HNE.out).symm, belowDrewN hb _⟩
          · have hs' := ba_ne hs
            have HD := Lib.hid hd; clear hd; have HD' := Lib.hid hd'; clear hd'; have HPRE := Lib.hid hpre; clear hpre; have HNE := Lib.hid hne; clear hne; have HX1 := Lib.hid hx1; clear hx1; have HX1' := Lib.hid hx1'; clear hx1'; have HEQ := Lib.hid heq; clear heq; have HS := Lib.hid hs; clear hs
            go_wp2_with fail
            go_quiet (first | (go_at_call 105; refine Calls.quiet_of (l2SameInts_q xa1 xc1 x1 xa1' xc1' x1' _ (HX1.out.below (by (repeat (first | with_reducible assumption | with_reducible exact Below.refl _ _ | with_reducible refine Below.drew ?_ | with_reducible refine belowDrewN ?_ _ | ((with_reducible refine Below.setCell ?_ ?_ _); rotate_left; focus (first | omega | (simp; done) | (simp; omega))) | ((with_reducible refine Below.alloc ?_ ?_ _); rotate_left; focus (first | omega | (simp; done) | (simp; omega))))))) (HX1'.out.below (by (repeat (first | with_reducible assumption | with_reducible exact Below.refl _ _ | with_reducible refine Below.drew ?_ | with_reducible refine belowDrewN ?_ _ | ((with_reducible refine Below.setCell ?_ ?_ _); rotate_left; focus (first | omega | (simp; done) | (simp; omega))) | ((with_reducible refine Below.alloc ?_ ?_ _); rotate_left; focus (first | omega | (simp; done) | (simp; omega))))))))))
            go_wp2_with fail
            go_ret
            exact ⟨ret_b ((eqBL_not _ _).2 HNE.out).symm, belowDrewN hb _⟩
      · go_wp2_with fail
        go_ret
        have hj2 : j = ms.length := by omega
        subst hj2
        refine ⟨ret_b ((eqBL_iff _ _).2 ?_).symm, hb⟩
        have hpre' := hpre
        rwa [HLN.out, List.take_length, ← HLN.out, HL.out, HLN'.out, List.take_length] at hpre'
  · have hl' : ((ms.length : Int) != (ms'.length : Int)) = true := by simp; omega
    have HIN := Lib.hid hin; clear hin; have HI := Lib.hid hi; clear hi; have HIN' := Lib.hid hin'; clear hin'; have HI' := Lib.hid hi'; clear hi'; have HLN := Lib.hid hln; clear hln; have HLN' := Lib.hid hln'; clear hln'; have HL := Lib.hid hl; clear hl
    go_enter Try.func44, Try.ntmps44
    go_wp2_with fail
    go_ret
    exact ⟨ret_b ((eqBL_not _ _).2 (by intro e; exact HL.out (by rw [HLN.out, HLN'.out, e]))).symm, by (repeat (first | with_reducible assumption | with_reducible exact Below.refl _ _ | with_reducible refine Below.drew ?_ | with_reducible refine belowDrewN ?_ _ | ((with_reducible refine Below.setCell ?_ ?_ _); rotate_left; focus (first | omega | (simp; done) | (simp; omega))) | ((with_reducible refine Below.alloc ?_ ?_ _); rotate_left; focus (first | omega | (simp; done) | (simp; omega)))))⟩
set_option maxHeartbeats 1000000 in
theorem iEqualBindings_calls (ds : List Bnd) (a : Option Addr) (cap : Nat) (ms : List M) (ds' : List Bnd) (a' : Option Addr) (cap' : Nat) (ms' : List M) (w : World) (hi : Bnd.IsL ds ms) (hin : (M.sl a cap 4 45 ms).In w) (hi' : Bnd.IsL ds' ms') (hin' : (M.sl a' cap' 4 45 ms').In w) :
    Calls Try.prog 83 #[.slice a ms.length cap, .slice a' ms'.length cap'] w (Ret (.bool (eqBL ds ds')) w) := by
  have hln := hi.length
  have hln' := hi'.length
  have hcapm := hin.len
  have hcapm' := hin'.len
  by_cases hl : ms.length = ms'.length
  · have hl' : ((ms.length : Int) != (ms'.length : Int)) = false := by simp [hl]
    have HIN := Lib.hid hin; clear hin; have HI := Lib.hid hi; clear hi; have HIN' := Lib.hid hin'; clear hin'; have HI' := Lib.hid hi'; clear hi'; have HLN := Lib.hid hln; clear hln; have HLN' := Lib.hid hln'; clear hln'; have HL := Lib.hid hl; clear hl
    go_enter Try.func83, Try.ntmps83
    go_wp2_with fail
    go_loopw [13] (fun i wr => ∃ j : Nat, j ≤ ms.length ∧ i = .int .i64 j ∧ ds.take j = ds'.take j ∧ Below w.heap.size w wr ∧ w.heap.size ≤ wr.heap.size) (fun i _ => ms.length - (intOf i).toNat)
    case atStart => exact ⟨0, Nat.zero_le _, rfl, by simp, Below.refl _ _, Nat.le_refl _⟩
    case round =>
      obtain ⟨j, hj, rfl, hpre, hb, hsz⟩ := hrel
      by_cases hlt : j < ms.length
      · have hlt' : j < ms'.length := by have := HL.out; omega
        obtain ⟨b, off, s1, x1, k1, n1, xa1, xc1, rfl, hd, hx1, c0, c1, c2, c3⟩ := Bnd.elem (HIN.out.below hb) HI.out j hlt
        obtain ⟨b', off', s1', x1', k1', n1', xa1', xc1', rfl, hd', hx1', c0', c1', c2', c3'⟩ := Bnd.elem (HIN'.out.below hb) HI'.out j hlt'
        have hbl := World.block_lt_of_cell? wr _ c0
        have hbl' := World.block_lt_of_cell? wr _ c0'
        by_cases heq : Bnd.mk s1 x1 k1 n1 = Bnd.mk s1' x1' k1' n1'
        · have hpre2 := take_eq_succ hpre hd hd' heq
          simp only [Bnd.mk.injEq] at heq
          obtain ⟨rfl, rfl, rfl, rfl⟩ := heq
          have hsx : eqL x1 x1 = true := (eqL_iff _ _).2 rfl
          have HD := Lib.hid hd; clear hd; have HD' := Lib.hid hd'; clear hd'; have HPRE := Lib.hid hpre; clear hpre; have HPRE2 := Lib.hid hpre2; clear hpre2; have HX1 := Lib.hid hx1; clear hx1; have HX1' := Lib.hid hx1'; clear hx1'
          go_wp2_with fail
          go_quiet (first | (go_at_call 128; refine Calls.quiet_of (sameInts_q xa1 xc1 x1 xa1' xc1' x1 _ (HX1.out.below (by (repeat (first | with_reducible assumption | with_reducible exact Below.refl _ _ | with_reducible refine Below.drew ?_ | with_reducible refine belowDrewN ?_ _ | ((with_reducible refine Below.setCell ?_ ?_ _); rotate_left; focus (first | omega | (simp; done) | (simp; omega))) | ((with_reducible refine Below.alloc ?_ ?_ _); rotate_left; focus (first | omega | (simp; done) | (simp; omega))))))) (HX1'.out.below (by (repeat (first | with_reducible assumption | with_reducible exact Below.refl _ _ | with_reducible refine Below.drew ?_ | with_reducible refine belowDrewN ?_ _ | ((with_reducible refine Below.setCell ?_ ?_ _); rotate_left; focus (first | omega | (simp; done) | (simp; omega))) | ((with_reducible refine Below.alloc ?_ ?_ _); rotate_left; focus (first | omega | (simp; done) | (simp; omega))))))))))
          go_wp2_with fail
          go_roundw
          case rel => exact ⟨j + 1, by omega, by go_num, HPRE2.out, belowDrewN hb _, hsz⟩
          case measure => simp [intOf]; omega
        · have hne := ne_of_get hd hd' heq
          by_cases hs : s1 = s1'
          · subst hs
            by_cases hx : x1 = x1'
            · subst hx
              have hsx : eqL x1 x1 = true := (eqL_iff _ _).2 rfl
              by_cases hk : k1 = k1'
              · subst hk
                have hn : ¬ n1 = n1' := fun h => heq (by rw [h])
                have hn' := int_ne hn
                have HD := Lib.hid hd; clear hd; have HD' := Lib.hid hd'; clear hd'; have HPRE := Lib.hid hpre; clear hpre; have HNE := Lib.hid hne; clear hne; have HX1 := Lib.hid hx1; clear hx1; have HX1' := Lib.hid hx1'; clear hx1'; have HEQ := Lib.hid heq; clear heq; have HN := Lib.hid hn; clear hn
                go_wp2_with fail
                go_quiet (first | (go_at_call 128; refine Calls.quiet_of (sameInts_q xa1 xc1 x1 xa1' xc1' x1 _ (HX1.out.below (by (repeat (first | with_reducible assumption | with_reducible exact Below.refl _ _ | with_reducible refine Below.drew ?_ | with_reducible refine belowDrewN ?_ _ | ((with_reducible refine Below.setCell ?_ ?_ _); rotate_left; focus (first | omega | (simp; done) | (simp; omega))) | ((with_reducible refine Below.alloc ?_ ?_ _); rotate_left; focus (first | omega | (simp; done) | (simp; omega))))))) (HX1'.out.below (by (repeat (first | with_reducible assumption | with_reducible exact Below.refl _ _ | with_reducible refine Below.drew ?_ | with_reducible refine belowDrewN ?_ _ | ((with_reducible refine Below.setCell ?_ ?_ _); rotate_left; focus (first | omega | (simp; done) | (simp; omega))) | ((with_reducible refine Below.alloc ?_ ?_ _); rotate_left; focus (first | omega | (simp; done) | (simp; omega))))))))))
                go_wp2_with fail
                go_ret
                exact ⟨ret_b ((eqBL_not _ _).2 HNE.out).symm, belowDrewN hb _⟩
              · have hk' := int_ne hk
                have HD := Lib.hid hd; clear hd; have HD' := Lib.hid hd'; clear hd'; have HPRE := Lib.hid hpre; clear hpre; have HNE := Lib.hid hne; clear hne; have HX1 := Lib.hid hx1; clear hx1; have HX1' := Lib.hid hx1'; clear hx1'; have HEQ := Lib.hid heq; clear heq; have HK := Lib.hid hk; clear hk
                go_wp2_with fail
                go_quiet (first | (go_at_call 128; refine Calls.quiet_of (sameInts_q xa1 xc1 x1 xa1' xc1' x1 _ (HX1.out.below (by (repeat (first | with_reducible assumption | with_reducible exact Below.refl _ _ | with_reducible refine Below.drew ?_ | with_reducible refine belowDrewN ?_ _ | ((with_reducible refine Below.setCell ?_ ?_ _); rotate_left; focus (first | omega | (simp; done) | (simp; omega))) | ((with_reducible refine Below.alloc ?_ ?_ _); rotate_left; focus (first | omega | (simp; done) | (simp; omega))))))) (HX1'.out.below (by (repeat (first | with_reducible assumption | with_reducible exact Below.refl _ _ | with_reducible refine Below.drew ?_ | with_reducible refine belowDrewN ?_ _ | ((with_reducible refine Below.setCell ?_ ?_ _); rotate_left; focus (first | omega | (simp; done) | (simp; omega))) | ((with_reducible refine Below.alloc ?_ ?_ _); rotate_left; focus (first | omega | (simp; done) | (simp; omega))))))))))
                go_wp2_with fail
                go_ret
                exact ⟨ret_b ((eqBL_not _ _).2 HNE.out).symm, belowDrewN hb _⟩
            · have hsx : eqL x1 x1' = false := (eqL_not _ _).2 hx
              by_cases hk : k1 = k1'
              · subst hk
                by_cases hn : n1 = n1'
                · subst hn
                  have HD := Lib.hid hd; clear hd; have HD' := Lib.hid hd'; clear hd'; have HPRE := Lib.hid hpre; clear hpre; have HNE := Lib.hid hne; clear hne; have HX1 := Lib.hid hx1; clear hx1; have HX1' := Lib.hid hx1'; clear hx1'; have HEQ := Lib.hid heq; clear heq; have HX := Lib.hid hx; clear hx
                  go_wp2_with fail
                  go_quiet (first | (go_at_call 128; refine Calls.quiet_of (sameInts_q xa1 xc1 x1 xa1' xc1' x1' _ (HX1.out.below (by (repeat (first | with_reducible assumption | with_reducible exact Below.refl _ _ | with_reducible refine Below.drew ?_ | with_reducible refine belowDrewN ?_ _ | ((with_reducible refine Below.setCell ?_ ?_ _); rotate_left; focus (first | omega | (simp; done) | (simp; omega))) | ((with_reducible refine Below.alloc ?_ ?_ _); rotate_left; focus (first | omega | (simp; done) | (simp; omega))))))) (HX1'.out.below (by (repeat (first | with_reducible assumption | with_reducible exact Below.refl _ _ | with_reducible refine Below.drew ?_ | with_reducible refine belowDrewN ?_ _ | ((with_reducible refine Below.setCell ?_ ?_ _); rotate_left; focus (first | omega | (simp; done) | (simp; omega))) | ((with_reducible refine Below.alloc ?_ ?_ _); rotate_left; focus (first | omega | (simp; done) | (simp; omega))))))))))
                  go_wp2_with fail
                  go_ret
                  exact ⟨ret_b ((eqBL_not _ _).2 HNE.out).symm, belowDrewN hb _⟩
                · have hn' := int_ne hn
                  have HD := Lib.hid hd; clear hd; have HD' := Lib.hid hd'; clear hd'; have HPRE := Lib.hid hpre; clear hpre; have HNE := Lib.hid hne; clear hne; have HX1 := Lib.hid hx1; clear hx1; have HX1' := Lib.hid hx1'; clear hx1'; have HEQ := Lib.hid heq; clear heq; have HX := Lib.hid hx; clear hx; have HN := Lib.hid hn; clear hn
                  go_wp2_with fail
                  go_quiet (first | (go_at_call 128; refine Calls.quiet_of (sameInts_q xa1 xc1 x1 xa1' xc1' x1' _ (HX1.out.below (by (repeat (first | with_reducible assumption | with_reducible exact Below.refl _ _ | with_reducible refine Below.drew ?_ | with_reducible refine belowDrewN ?_ _ | ((with_reducible refine Below.setCell ?_ ?_ _); rotate_left; focus (first | omega | (simp; done) | (simp; omega))) | ((with_reducible refine Below.alloc ?_ ?_ _); rotate_left; focus (first | omega | (simp; done) | (simp; omega))))))) (HX1'.out.below (by (repeat (first | with_reducible assumption | with_reducible exact Below.refl _ _ | with_reducible refine Below.drew ?_ | with_reducible refine belowDrewN ?_ _ | ((with_reducible refine Below.setCell ?_ ?_ _); rotate_left; focus (first | omega | (simp; done) | (simp; omega))) | ((with_reducible refine Below.alloc ?_ ?_ _); rotate_left; focus (first | omega | (simp; done) | (simp; omega))))))))))
                  go_wp2_with fail
                  go_ret
                  exact ⟨ret_b ((eqBL_not _ _).2 HNE.out).symm, belowDrewN hb _⟩
              · have hk' := int_ne hk
                have HD := Lib.hid hd; clear hd; have HD' := Lib.hid hd'; clear hd'; have HPRE := Lib.hid hpre; clear hpre; have HNE := Lib.hid hne; clear hne; have HX1 := Lib.hid hx1; clear hx1; have HX1' := Lib.hid hx1'; clear hx1'; have HEQ := Lib.hid heq; clear heq; have HX := Lib.hid hx; clear hx; have HK := Lib.hid hk; clear hk
                go_wp2_with fail
                go_quiet (first | (go_at_call 128; refine Calls.quiet_of (sameInts_q xa1 xc1 x1 xa1' xc1' x1' _ (HX1.out.below (by (repeat (first | with_reducible assumption | with_reducible exact Below.refl _ _ | with_reducible refine Below.drew ?_ | with_reducible refine belowDrewN ?_ _ | ((with_reducible refine Below.setCell ?_ ?_ _); rotate_left; focus (first | omega | (simp; done) | (simp; omega))) | ((with_reducible refine Below.alloc ?_ ?_ _); rotate_left; focus (first | omega | (simp; done) | (simp; omega))))))) (HX1'.out.below (by (repeat (first | with_reducible assumption | with_reducible exact Below.refl _ _ | with_reducible refine Below.drew ?_ | with_reducible refine belowDrewN ?_ _ | ((with_reducible refine Below.setCell ?_ ?_ _); rotate_left; focus (first | omega | (simp; done) | (simp; omega))) | ((with_reducible refine Below.alloc ?_ ?_ _); rotate_left; focus (first | omega | (simp; done) | (simp; omega))))))))))
                go_wp2_with fail
                go_ret
                exact ⟨ret_b ((eqBL_not _ _).2 HNE.out).symm, belowDrewN hb _⟩
          · have hs' := ba_ne hs
            have HD := Lib.hid hd; clear hd; have HD' := Lib.hid hd'; clear hd'; have HPRE := Lib.hid hpre; clear hpre; have HNE := Lib.hid hne; clear hne; have HX1 := Lib.hid hx1; clear hx1; have HX1' := Lib.hid hx1'; clear hx1'; have HEQ := Lib.hid heq; clear heq; have HS := Lib.hid hs; clear hs
            go_wp2_with fail
            go_quiet (first | (go_at_call 128; refine Calls.quiet_of (sameInts_q xa1 xc1 x1 xa1' xc1' x1' _ (HX1.out.below (by (repeat (first | with_reducible assumption | with_reducible exact Below.refl _ _ | with_reducible refine Below.drew ?_ | with_reducible refine belowDrewN ?_ _ | ((with_reducible refine Below.setCell ?_ ?_ _); rotate_left; focus (first | omega | (simp; done) | (simp; omega))) | ((with_reducible refine Below.alloc ?_ ?_ _); rotate_left; focus (first | omega | (simp; done) | (simp; omega))))))) (HX1'.out.below (by (repeat (first | with_reducible assumption | with_reducible exact Below.refl _ _ | with_reducible refine Below.drew ?_ | with_reducible refine belowDrewN ?_ _ | ((with_reducible refine Below.setCell ?_ ?_ _); rotate_left; focus (first | omega | (simp; done) | (simp; omega))) | ((with_reducible refine Below.alloc ?_ ?_ _); rotate_left; focus (first | omega | (simp; done) | (simp; omega))))))))))
            go_wp2_with fail
            go_ret
            exact ⟨ret_b ((eqBL_not _ _).2 HNE.out).symm, belowDrewN hb _⟩
      · go_wp2_with fail
        go_ret
        have hj2 : j = ms.length := by omega
        subst hj2
        refine ⟨ret_b ((eqBL_iff _ _).2 ?_).symm, hb⟩
        have hpre' := hpre
        rwa [HLN.out, List.take_length, ← HLN.out, HL.out, HLN'.out, List.take_length] at hpre'
  · have hl' : ((ms.length : Int) != (ms'.length : Int)) = true := by simp; omega
    have HIN := Lib.hid hin; clear hin; have HI := Lib.hid hi; clear hi; have HIN' := Lib.hid hin'; clear hin'; have HI' := Lib.hid hi'; clear hi'; have HLN := Lib.hid hln; clear hln; have HLN' := Lib.hid hln'; clear hln'; have HL := Lib.hid hl; clear hl
    go_enter Try.func83, Try.ntmps83
    go_wp2_with fail
    go_ret
    exact ⟨ret_b ((eqBL_not _ _).2 (by intro e; exact HL.out (by rw [HLN.out, HLN'.out, e]))).symm, by (repeat (first | with_reducible assumption | with_reducible exact Below.refl _ _ | with_reducible refine Below.drew ?_ | with_reducible refine belowDrewN ?_ _ | ((with_reducible refine Below.setCell ?_ ?_ _); rotate_left; focus (first | omega | (simp; done) | (simp; omega))) | ((with_reducible refine Below.alloc ?_ ?_ _); rotate_left; focus (first | omega | (simp; done) | (simp; omega)))))⟩
end Go.Proofs.Ytdfekdeojahmmaa
