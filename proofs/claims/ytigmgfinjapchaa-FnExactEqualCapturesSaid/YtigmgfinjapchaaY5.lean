/-
  Walks: EqualSyntax. No condition.
-/
import Derived.Test.YtigmgfinjapchaaY6
set_option linter.unusedVariables false
set_option linter.unusedSimpArgs false
set_option maxRecDepth 100000
namespace Go.Proofs.Ytigmgfinjapchaa
open Go.RowKit

open Classical in
noncomputable def eqSB (x y : Syn) : Bool := decide (x = y)
theorem eqSB_iff (x y : Syn) : eqSB x y = true ↔ x = y := by simp [eqSB]
theorem eqSB_not (x y : Syn) : eqSB x y = false ↔ ¬ x = y := by simp [eqSB]
def sESs (ds : List Syn) : Prop := ∀ (k n : Int) (s : ByteArray) (x : List Int) (xa : Option Addr) (xc : Nat) (a : Option Addr) (cap : Nat) (ms : List M) (k' n' : Int) (s' : ByteArray) (x' : List Int) (xa' : Option Addr) (xc' : Nat) (a' : Option Addr) (cap' : Nat) (ds' : List Syn) (ms' : List M) (w : World),
    Syn.IsL 33 ds ms → (SynOwn 33 xa xc x a cap ms).In w → Syn.IsL 33 ds' ms' → (SynOwn 33 xa' xc' x' a' cap' ms').In w →
    Calls Try.prog 26 #[.agg #[.int .i64 k, .int .i64 n, .string s, .slice xa x.length xc, .slice a ms.length cap], .agg #[.int .i64 k', .int .i64 n', .string s', .slice xa' x'.length xc', .slice a' ms'.length cap']] w (Ret (.bool (eqSB (.mk k n s x ds) (.mk k' n' s' x' ds'))) w)
theorem sEqualSyntax_calls : ∀ ds, sESs ds := by
  refine Syn.inductL fun ds ih => ?_
  intro k n s x xa xc a cap ms k' n' s' x' xa' xc' a' cap' ds' ms' w hi hown hi' hown'
  have hx := SynIn_x hown
  have hin := SynIn_ms hown
  have hx' := SynIn_x hown'
  have hin' := SynIn_ms hown'
  have hln := hi.length
  have hln' := hi'.length
  have hcapm := hin.len
  have hcapm' := hin'.len
  have hxl := Ints.len hx
  have hxl' := Ints.len hx'
  clear hown hown'
  by_cases hk : k = k'
  · subst hk
    by_cases hn : n = n'
    · subst hn
      by_cases hs : s = s'
      · subst hs
        by_cases hxx : x = x'
        · subst hxx
          have hsx : eqL x x = true := (eqL_iff _ _).2 rfl
          by_cases hl : ms.length = ms'.length
          · have hl' : ((ms.length : Int) != (ms'.length : Int)) = false := by simp [hl]
            have IH := Lib.hid ih; clear ih; have HIN := Lib.hid hin; clear hin; have HI := Lib.hid hi; clear hi; have HIN' := Lib.hid hin'; clear hin'; have HI' := Lib.hid hi'; clear hi'; have HLN := Lib.hid hln; clear hln; have HLN' := Lib.hid hln'; clear hln'; have HL := Lib.hid hl; clear hl; have HX := Lib.hid hx; clear hx; have HX' := Lib.hid hx'; clear hx'
            go_enter Try.func26, Try.ntmps26
            go_wp2_with fail
            refine (l2SameInts_calls xa xc x xa' xc' x _ (HX.out.below (by (repeat (first | with_reducible assumption | with_reducible exact Below.refl _ _ | with_reducible refine Below.drew ?_ | with_reducible refine belowDrewN ?_ _ | ((with_reducible refine Below.setCell ?_ ?_ _); rotate_left; focus (first | omega | (simp; done) | (simp; omega))) | ((with_reducible refine Below.alloc ?_ ?_ _); rotate_left; focus (first | omega | (simp; done) | (simp; omega))))))) (HX'.out.below (by (repeat (first | with_reducible assumption | with_reducible exact Below.refl _ _ | with_reducible refine Below.drew ?_ | with_reducible refine belowDrewN ?_ _ | ((with_reducible refine Below.setCell ?_ ?_ _); rotate_left; focus (first | omega | (simp; done) | (simp; omega))) | ((with_reducible refine Below.alloc ?_ ?_ _); rotate_left; focus (first | omega | (simp; done) | (simp; omega)))))))).mono ?_
            rintro e w0 ⟨rfl, hb0⟩
            obtain ⟨hc0, hf0⟩ := bcell hb0; have hz0 := hb0.size; (try simp only [World.size_alloc, World.size_setCell, World.size_drew, sizeDrewN] at hz0 hc0 hf0); have hp0_0 : w.heap.size < w0.heap.size := (by omega); have hp0_1 : w.heap.size + 1 < w0.heap.size := (by omega)
            go_wp2_with fail
            go_loopw [45] (fun i wr => ∃ j : Nat, j ≤ ms.length ∧ i = .int .i64 j ∧ ds.take j = ds'.take j ∧ wr.cell? ⟨w.heap.size, 4, none⟩ = some (.slice a ms.length cap) ∧ wr.cell? ⟨w.heap.size + 1, 4, none⟩ = some (.slice a' ms'.length cap') ∧ Below w.heap.size w wr ∧ w.heap.size + 1 + 1 ≤ wr.heap.size) (fun i _ => ms.length - (intOf i).toNat)
            case atStart => exact ⟨0, Nat.zero_le _, rfl, by simp, by simp (disch := first | omega | (simp; done)) [hc0, go_sem], by simp (disch := first | omega | (simp; done)) [hc0, go_sem], by (repeat (first | with_reducible assumption | with_reducible exact Below.refl _ _ | with_reducible refine Below.drew ?_ | with_reducible refine belowDrewN ?_ _ | ((with_reducible refine Below.setCell ?_ ?_ _); rotate_left; focus (first | omega | (simp; done) | (simp; omega))) | ((with_reducible refine Below.alloc ?_ ?_ _); rotate_left; focus (first | omega | (simp; done) | (simp; omega))) | ((with_reducible refine Below.trans ?_ (Below.mono hb0 ?_)); rotate_left; focus (first | omega | (simp; done) | (simp; omega))))), by omega⟩
            case round =>
              clear hc0 hf0
              obtain ⟨j, hj, rfl, hpre, q1, q2, hb, hsz⟩ := hrel
              by_cases hlt : j < ms.length
              · have hlt' : j < ms'.length := by have := HL.out; omega
                obtain ⟨b, off, k1, n1, s1, x1, ds1, xa1, xc1, a1, cap1, ms1, rfl, hd, hi1, hx1, hin1, c0, c1, c2, c3, c4⟩ := Syn.elem (HIN.out.below hb) HI.out j hlt
                obtain ⟨b', off', k1', n1', s1', x1', ds1', xa1', xc1', a1', cap1', ms1', rfl, hd', hi1', hx1', hin1', c0', c1', c2', c3', c4'⟩ := Syn.elem (HIN'.out.below hb) HI'.out j hlt'
                have hbl := World.block_lt_of_cell? wr _ c0
                have hbl' := World.block_lt_of_cell? wr _ c0'
                have p1 : w.heap.size < wr.heap.size := by omega
                have p2 : w.heap.size + 1 < wr.heap.size := by omega
                by_cases heq : Syn.mk k1 n1 s1 x1 ds1 = Syn.mk k1' n1' s1' x1' ds1'
                · have hq : eqSB (Syn.mk k1 n1 s1 x1 ds1) (Syn.mk k1' n1' s1' x1' ds1') = true := (eqSB_iff _ _).2 heq
                  have hpre2 := take_eq_succ hpre hd hd' heq
                  have HI1 := Lib.hid hi1; clear hi1; have HIN1 := Lib.hid hin1; clear hin1; have HI1' := Lib.hid hi1'; clear hi1'; have HIN1' := Lib.hid hin1'; clear hin1'; have HD := Lib.hid hd; clear hd; have HD' := Lib.hid hd'; clear hd'; have HPRE := Lib.hid hpre; clear hpre; have HPRE2 := Lib.hid hpre2; clear hpre2; have HEQ := Lib.hid heq; clear heq; have HX1 := Lib.hid hx1; clear hx1; have HX1' := Lib.hid hx1'; clear hx1'
                  go_wp2_with fail
                  go_region_held3 (fun w' => (w'.cell? ⟨w.heap.size, 4, none⟩ = some (.slice (some ⟨b, off, none⟩) ms.length cap) ∧ w'.cell? ⟨w.heap.size + 1, 4, none⟩ = some (.slice (some ⟨b', off', none⟩) ms'.length cap')) ∧ (w'.cell? ⟨b, off + j * 5, none⟩ = some (.int .i64 k1) ∧ w'.cell? ⟨b, off + j * 5 + 1, none⟩ = some (.int .i64 n1) ∧ w'.cell? ⟨b, off + j * 5 + 2, none⟩ = some (.string s1) ∧ w'.cell? ⟨b, off + j * 5 + 3, none⟩ = some (.slice xa1 x1.length xc1) ∧ w'.cell? ⟨b, off + j * 5 + 4, none⟩ = some (.slice a1 ms1.length cap1) ∧ w'.cell? ⟨b', off' + j * 5, none⟩ = some (.int .i64 k1') ∧ w'.cell? ⟨b', off' + j * 5 + 1, none⟩ = some (.int .i64 n1') ∧ w'.cell? ⟨b', off' + j * 5 + 2, none⟩ = some (.string s1') ∧ w'.cell? ⟨b', off' + j * 5 + 3, none⟩ = some (.slice xa1' x1'.length xc1') ∧ w'.cell? ⟨b', off' + j * 5 + 4, none⟩ = some (.slice a1' ms1'.length cap1')))
                    (first | exact ⟨⟨q1, q2⟩, c0, c1, c2, c3, c4, c0', c1', c2', c3', c4'⟩ | exact ⟨⟨(hc1 _ _ p1).trans q1, (hc1 _ _ p2).trans q2⟩, (hc1 _ _ hbl).trans c0, (hc1 _ _ hbl).trans c1, (hc1 _ _ hbl).trans c2, (hc1 _ _ hbl).trans c3, (hc1 _ _ hbl).trans c4, (hc1 _ _ hbl').trans c0', (hc1 _ _ hbl').trans c1', (hc1 _ _ hbl').trans c2', (hc1 _ _ hbl').trans c3', (hc1 _ _ hbl').trans c4'⟩)
                    (first | (go_at_call 26; refine (IH.out k1 n1 s1 x1 ds1 (List.mem_of_getElem? HD.out) k1 n1 s1 x1 xa1 xc1 a1 cap1 ms1 k1' n1' s1' x1' xa1' xc1' a1' cap1' ds1' ms1' _ HI1.out (SynIn_mk (HX1.out.below (by (repeat (first | with_reducible assumption | with_reducible exact Below.refl _ _ | with_reducible refine Below.drew ?_ | with_reducible refine belowDrewN ?_ _ | ((with_reducible refine Below.setCell ?_ ?_ _); rotate_left; focus (first | omega | (simp; done) | (simp; omega))) | ((with_reducible refine Below.alloc ?_ ?_ _); rotate_left; focus (first | omega | (simp; done) | (simp; omega))))))) (HIN1.out.below (by (repeat (first | with_reducible assumption | with_reducible exact Below.refl _ _ | with_reducible refine Below.drew ?_ | with_reducible refine belowDrewN ?_ _ | ((with_reducible refine Below.setCell ?_ ?_ _); rotate_left; focus (first | omega | (simp; done) | (simp; omega))) | ((with_reducible refine Below.alloc ?_ ?_ _); rotate_left; focus (first | omega | (simp; done) | (simp; omega)))))))) HI1'.out (SynIn_mk (HX1'.out.below (by (repeat (first | with_reducible assumption | with_reducible exact Below.refl _ _ | with_reducible refine Below.drew ?_ | with_reducible refine belowDrewN ?_ _ | ((with_reducible refine Below.setCell ?_ ?_ _); rotate_left; focus (first | omega | (simp; done) | (simp; omega))) | ((with_reducible refine Below.alloc ?_ ?_ _); rotate_left; focus (first | omega | (simp; done) | (simp; omega))))))) (HIN1'.out.below (by (repeat (first | with_reducible assumption | with_reducible exact Below.refl _ _ | with_reducible refine Below.drew ?_ | with_reducible refine belowDrewN ?_ _ | ((with_reducible refine Below.setCell ?_ ?_ _); rotate_left; focus (first | omega | (simp; done) | (simp; omega))) | ((with_reducible refine Below.alloc ?_ ?_ _); rotate_left; focus (first | omega | (simp; done) | (simp; omega))))))))).mono ?_; rintro e w1 ⟨rfl, hb1⟩; obtain ⟨hc1, hf1⟩ := bcell hb1))
                  have hz1 := hb1.size
                  simp only [World.size_drew] at hz1
                  have q1' := (hc1 _ _ p1).trans q1
                  have q2' := (hc1 _ _ p2).trans q2
                  go_wp2_with fail
                  go_roundw
                  case rel => exact ⟨j + 1, by omega, by go_num, HPRE2.out, q1', q2', by (repeat (first | with_reducible assumption | with_reducible exact Below.refl _ _ | with_reducible refine Below.drew ?_ | with_reducible refine belowDrewN ?_ _ | ((with_reducible refine Below.setCell ?_ ?_ _); rotate_left; focus (first | omega | (simp; done) | (simp; omega))) | ((with_reducible refine Below.alloc ?_ ?_ _); rotate_left; focus (first | omega | (simp; done) | (simp; omega))) | ((with_reducible refine Below.trans ?_ (Below.mono hb1 ?_)); rotate_left; focus (first | omega | (simp; done) | (simp; omega))))), by omega⟩
                  case measure => simp [intOf]; omega
                · have hq : eqSB (Syn.mk k1 n1 s1 x1 ds1) (Syn.mk k1' n1' s1' x1' ds1') = false := (eqSB_not _ _).2 heq
                  have hne := ne_of_get hd hd' heq
                  have HI1 := Lib.hid hi1; clear hi1; have HIN1 := Lib.hid hin1; clear hin1; have HI1' := Lib.hid hi1'; clear hi1'; have HIN1' := Lib.hid hin1'; clear hin1'; have HD := Lib.hid hd; clear hd; have HD' := Lib.hid hd'; clear hd'; have HPRE := Lib.hid hpre; clear hpre; have HNE := Lib.hid hne; clear hne; have HEQ := Lib.hid heq; clear heq; have HX1 := Lib.hid hx1; clear hx1; have HX1' := Lib.hid hx1'; clear hx1'
                  go_wp2_with fail
                  go_region_held3 (fun w' => (w'.cell? ⟨w.heap.size, 4, none⟩ = some (.slice (some ⟨b, off, none⟩) ms.length cap) ∧ w'.cell? ⟨w.heap.size + 1, 4, none⟩ = some (.slice (some ⟨b', off', none⟩) ms'.length cap')) ∧ (w'.cell? ⟨b, off + j * 5, none⟩ = some (.int .i64 k1) ∧ w'.cell? ⟨b, off + j * 5 + 1, none⟩ = some (.int .i64 n1) ∧ w'.cell? ⟨b, off + j * 5 + 2, none⟩ = some (.string s1) ∧ w'.cell? ⟨b, off + j * 5 + 3, none⟩ = some (.slice xa1 x1.length xc1) ∧ w'.cell? ⟨b, off + j * 5 + 4, none⟩ = some (.slice a1 ms1.length cap1) ∧ w'.cell? ⟨b', off' + j * 5, none⟩ = some (.int .i64 k1') ∧ w'.cell? ⟨b', off' + j * 5 + 1, none⟩ = some (.int .i64 n1') ∧ w'.cell? ⟨b', off' + j * 5 + 2, none⟩ = some (.string s1') ∧ w'.cell? ⟨b', off' + j * 5 + 3, none⟩ = some (.slice xa1' x1'.length xc1') ∧ w'.cell? ⟨b', off' + j * 5 + 4, none⟩ = some (.slice a1' ms1'.length cap1')))
                    (first | exact ⟨⟨q1, q2⟩, c0, c1, c2, c3, c4, c0', c1', c2', c3', c4'⟩ | exact ⟨⟨(hc1 _ _ p1).trans q1, (hc1 _ _ p2).trans q2⟩, (hc1 _ _ hbl).trans c0, (hc1 _ _ hbl).trans c1, (hc1 _ _ hbl).trans c2, (hc1 _ _ hbl).trans c3, (hc1 _ _ hbl).trans c4, (hc1 _ _ hbl').trans c0', (hc1 _ _ hbl').trans c1', (hc1 _ _ hbl').trans c2', (hc1 _ _ hbl').trans c3', (hc1 _ _ hbl').trans c4'⟩)
                    (first | (go_at_call 26; refine (IH.out k1 n1 s1 x1 ds1 (List.mem_of_getElem? HD.out) k1 n1 s1 x1 xa1 xc1 a1 cap1 ms1 k1' n1' s1' x1' xa1' xc1' a1' cap1' ds1' ms1' _ HI1.out (SynIn_mk (HX1.out.below (by (repeat (first | with_reducible assumption | with_reducible exact Below.refl _ _ | with_reducible refine Below.drew ?_ | with_reducible refine belowDrewN ?_ _ | ((with_reducible refine Below.setCell ?_ ?_ _); rotate_left; focus (first | omega | (simp; done) | (simp; omega))) | ((with_reducible refine Below.alloc ?_ ?_ _); rotate_left; focus (first | omega | (simp; done) | (simp; omega))))))) (HIN1.out.below (by (repeat (first | with_reducible assumption | with_reducible exact Below.refl _ _ | with_reducible refine Below.drew ?_ | with_reducible refine belowDrewN ?_ _ | ((with_reducible refine Below.setCell ?_ ?_ _); rotate_left; focus (first | omega | (simp; done) | (simp; omega))) | ((with_reducible refine Below.alloc ?_ ?_ _); rotate_left; focus (first | omega | (simp; done) | (simp; omega)))))))) HI1'.out (SynIn_mk (HX1'.out.below (by (repeat (first | with_reducible assumption | with_reducible exact Below.refl _ _ | with_reducible refine Below.drew ?_ | with_reducible refine belowDrewN ?_ _ | ((with_reducible refine Below.setCell ?_ ?_ _); rotate_left; focus (first | omega | (simp; done) | (simp; omega))) | ((with_reducible refine Below.alloc ?_ ?_ _); rotate_left; focus (first | omega | (simp; done) | (simp; omega))))))) (HIN1'.out.below (by (repeat (first | with_reducible assumption | with_reducible exact Below.refl _ _ | with_reducible refine Below.drew ?_ | with_reducible refine belowDrewN ?_ _ | ((with_reducible refine Below.setCell ?_ ?_ _); rotate_left; focus (first | omega | (simp; done) | (simp; omega))) | ((with_reducible refine Below.alloc ?_ ?_ _); rotate_left; focus (first | omega | (simp; done) | (simp; omega))))))))).mono ?_; rintro e w1 ⟨rfl, hb1⟩; obtain ⟨hc1, hf1⟩ := bcell hb1))
                  go_wp2_with fail
                  go_ret
                  exact ⟨ret_b ((eqSB_not _ _).2 (by intro e; simp only [Syn.mk.injEq] at e; exact HNE.out e.2.2.2.2)).symm, by (repeat (first | with_reducible assumption | with_reducible exact Below.refl _ _ | with_reducible refine Below.drew ?_ | with_reducible refine belowDrewN ?_ _ | ((with_reducible refine Below.setCell ?_ ?_ _); rotate_left; focus (first | omega | (simp; done) | (simp; omega))) | ((with_reducible refine Below.alloc ?_ ?_ _); rotate_left; focus (first | omega | (simp; done) | (simp; omega))) | ((with_reducible refine Below.trans ?_ (Below.mono hb1 ?_)); rotate_left; focus (first | omega | (simp; done) | (simp; omega)))))⟩
              · go_wp2_with fail
                go_ret
                have hj2 : j = ms.length := by omega
                subst hj2
                refine ⟨ret_b ((eqSB_iff _ _).2 ?_).symm, hb⟩
                have hpre' := hpre
                rw [HLN.out, List.take_length, ← HLN.out, HL.out, HLN'.out, List.take_length] at hpre'
                rw [hpre']
          · have hl' : ((ms.length : Int) != (ms'.length : Int)) = true := by simp; omega
            have IH := Lib.hid ih; clear ih; have HIN := Lib.hid hin; clear hin; have HI := Lib.hid hi; clear hi; have HIN' := Lib.hid hin'; clear hin'; have HI' := Lib.hid hi'; clear hi'; have HLN := Lib.hid hln; clear hln; have HLN' := Lib.hid hln'; clear hln'; have HL := Lib.hid hl; clear hl; have HX := Lib.hid hx; clear hx; have HX' := Lib.hid hx'; clear hx'
            go_enter Try.func26, Try.ntmps26
            go_wp2_with fail
            refine (l2SameInts_calls xa xc x xa' xc' x _ (HX.out.below (by (repeat (first | with_reducible assumption | with_reducible exact Below.refl _ _ | with_reducible refine Below.drew ?_ | with_reducible refine belowDrewN ?_ _ | ((with_reducible refine Below.setCell ?_ ?_ _); rotate_left; focus (first | omega | (simp; done) | (simp; omega))) | ((with_reducible refine Below.alloc ?_ ?_ _); rotate_left; focus (first | omega | (simp; done) | (simp; omega))))))) (HX'.out.below (by (repeat (first | with_reducible assumption | with_reducible exact Below.refl _ _ | with_reducible refine Below.drew ?_ | with_reducible refine belowDrewN ?_ _ | ((with_reducible refine Below.setCell ?_ ?_ _); rotate_left; focus (first | omega | (simp; done) | (simp; omega))) | ((with_reducible refine Below.alloc ?_ ?_ _); rotate_left; focus (first | omega | (simp; done) | (simp; omega)))))))).mono ?_
            rintro e w0 ⟨rfl, hb0⟩
            obtain ⟨hc0, hf0⟩ := bcell hb0; have hz0 := hb0.size; (try simp only [World.size_alloc, World.size_setCell, World.size_drew, sizeDrewN] at hz0 hc0 hf0); have hp0_0 : w.heap.size < w0.heap.size := (by omega); have hp0_1 : w.heap.size + 1 < w0.heap.size := (by omega)
            go_wp2_with fail
            go_ret
            exact ⟨ret_b ((eqSB_not _ _).2 (by intro e; simp only [Syn.mk.injEq] at e; exact HL.out (by rw [HLN.out, HLN'.out, e.2.2.2.2]))).symm, by (repeat (first | with_reducible assumption | with_reducible exact Below.refl _ _ | with_reducible refine Below.drew ?_ | with_reducible refine belowDrewN ?_ _ | ((with_reducible refine Below.setCell ?_ ?_ _); rotate_left; focus (first | omega | (simp; done) | (simp; omega))) | ((with_reducible refine Below.alloc ?_ ?_ _); rotate_left; focus (first | omega | (simp; done) | (simp; omega))) | ((with_reducible refine Below.trans ?_ (Below.mono hb0 ?_)); rotate_left; focus (first | omega | (simp; done) | (simp; omega)))))⟩
        · have hsx : eqL x x' = false := (eqL_not _ _).2 hxx
          have IH := Lib.hid ih; clear ih; have HIN := Lib.hid hin; clear hin; have HI := Lib.hid hi; clear hi; have HIN' := Lib.hid hin'; clear hin'; have HI' := Lib.hid hi'; clear hi'; have HLN := Lib.hid hln; clear hln; have HLN' := Lib.hid hln'; clear hln'; have HXX := Lib.hid hxx; clear hxx; have HX := Lib.hid hx; clear hx; have HX' := Lib.hid hx'; clear hx'
          go_enter Try.func26, Try.ntmps26
          go_wp2_with fail
          refine (l2SameInts_calls xa xc x xa' xc' x' _ (HX.out.below (by (repeat (first | with_reducible assumption | with_reducible exact Below.refl _ _ | with_reducible refine Below.drew ?_ | with_reducible refine belowDrewN ?_ _ | ((with_reducible refine Below.setCell ?_ ?_ _); rotate_left; focus (first | omega | (simp; done) | (simp; omega))) | ((with_reducible refine Below.alloc ?_ ?_ _); rotate_left; focus (first | omega | (simp; done) | (simp; omega))))))) (HX'.out.below (by (repeat (first | with_reducible assumption | with_reducible exact Below.refl _ _ | with_reducible refine Below.drew ?_ | with_reducible refine belowDrewN ?_ _ | ((with_reducible refine Below.setCell ?_ ?_ _); rotate_left; focus (first | omega | (simp; done) | (simp; omega))) | ((with_reducible refine Below.alloc ?_ ?_ _); rotate_left; focus (first | omega | (simp; done) | (simp; omega)))))))).mono ?_
          rintro e w0 ⟨rfl, hb0⟩
          obtain ⟨hc0, hf0⟩ := bcell hb0; have hz0 := hb0.size; (try simp only [World.size_alloc, World.size_setCell, World.size_drew, sizeDrewN] at hz0 hc0 hf0); have hp0_0 : w.heap.size < w0.heap.size := (by omega); have hp0_1 : w.heap.size + 1 < w0.heap.size := (by omega)
          go_wp2_with fail
          go_ret
          exact ⟨ret_b ((eqSB_not _ _).2 (by intro e; simp only [Syn.mk.injEq] at e; exact HXX.out e.2.2.2.1)).symm, by (repeat (first | with_reducible assumption | with_reducible exact Below.refl _ _ | with_reducible refine Below.drew ?_ | with_reducible refine belowDrewN ?_ _ | ((with_reducible refine Below.setCell ?_ ?_ _); rotate_left; focus (first | omega | (simp; done) | (simp; omega))) | ((with_reducible refine Below.alloc ?_ ?_ _); rotate_left; focus (first | omega | (simp; done) | (simp; omega))) | ((with_reducible refine Below.trans ?_ (Below.mono hb0 ?_)); rotate_left; focus (first | omega | (simp; done) | (simp; omega)))))⟩
      · have hb := ba_ne hs
        have IH := Lib.hid ih; clear ih; have HIN := Lib.hid hin; clear hin; have HI := Lib.hid hi; clear hi; have HIN' := Lib.hid hin'; clear hin'; have HI' := Lib.hid hi'; clear hi'; have HLN := Lib.hid hln; clear hln; have HLN' := Lib.hid hln'; clear hln'; have HS := Lib.hid hs; clear hs; have HX := Lib.hid hx; clear hx; have HX' := Lib.hid hx'; clear hx'
        go_enter Try.func26, Try.ntmps26
        go_wp2_with fail
        go_ret
        exact ⟨ret_b ((eqSB_not _ _).2 (by intro e; simp only [Syn.mk.injEq] at e; exact HS.out e.2.2.1)).symm, by (repeat (first | with_reducible assumption | with_reducible exact Below.refl _ _ | with_reducible refine Below.drew ?_ | with_reducible refine belowDrewN ?_ _ | ((with_reducible refine Below.setCell ?_ ?_ _); rotate_left; focus (first | omega | (simp; done) | (simp; omega))) | ((with_reducible refine Below.alloc ?_ ?_ _); rotate_left; focus (first | omega | (simp; done) | (simp; omega)))))⟩
    · have hb : (n != n') = true := by simp [hn]
      have IH := Lib.hid ih; clear ih; have HIN := Lib.hid hin; clear hin; have HI := Lib.hid hi; clear hi; have HIN' := Lib.hid hin'; clear hin'; have HI' := Lib.hid hi'; clear hi'; have HLN := Lib.hid hln; clear hln; have HLN' := Lib.hid hln'; clear hln'; have HN := Lib.hid hn; clear hn; have HX := Lib.hid hx; clear hx; have HX' := Lib.hid hx'; clear hx'
      go_enter Try.func26, Try.ntmps26
      go_wp2_with fail
      go_ret
      exact ⟨ret_b ((eqSB_not _ _).2 (by intro e; simp only [Syn.mk.injEq] at e; exact HN.out e.2.1)).symm, by (repeat (first | with_reducible assumption | with_reducible exact Below.refl _ _ | with_reducible refine Below.drew ?_ | with_reducible refine belowDrewN ?_ _ | ((with_reducible refine Below.setCell ?_ ?_ _); rotate_left; focus (first | omega | (simp; done) | (simp; omega))) | ((with_reducible refine Below.alloc ?_ ?_ _); rotate_left; focus (first | omega | (simp; done) | (simp; omega)))))⟩
  · have hb : (k != k') = true := by simp [hk]
    have IH := Lib.hid ih; clear ih; have HIN := Lib.hid hin; clear hin; have HI := Lib.hid hi; clear hi; have HIN' := Lib.hid hin'; clear hin'; have HI' := Lib.hid hi'; clear hi'; have HLN := Lib.hid hln; clear hln; have HLN' := Lib.hid hln'; clear hln'; have HK := Lib.hid hk; clear hk; have HX := Lib.hid hx; clear hx; have HX' := Lib.hid hx'; clear hx'
    go_enter Try.func26, Try.ntmps26
    go_wp2_with fail
    go_ret
    exact ⟨ret_b ((eqSB_not _ _).2 (by intro e; simp only [Syn.mk.injEq] at e; exact HK.out e.1)).symm, by (repeat (first | with_reducible assumption | with_reducible exact Below.refl _ _ | with_reducible refine Below.drew ?_ | with_reducible refine belowDrewN ?_ _ | ((with_reducible refine Below.setCell ?_ ?_ _); rotate_left; focus (first | omega | (simp; done) | (simp; omega))) | ((with_reducible refine Below.alloc ?_ ?_ _); rotate_left; focus (first | omega | (simp; done) | (simp; omega)))))⟩
def iESs (ds : List Syn) : Prop := ∀ (k n : Int) (s : ByteArray) (x : List Int) (xa : Option Addr) (xc : Nat) (a : Option Addr) (cap : Nat) (ms : List M) (k' n' : Int) (s' : ByteArray) (x' : List Int) (xa' : Option Addr) (xc' : Nat) (a' : Option Addr) (cap' : Nat) (ds' : List Syn) (ms' : List M) (w : World),
    Syn.IsL 33 ds ms → (SynOwn 33 xa xc x a cap ms).In w → Syn.IsL 33 ds' ms' → (SynOwn 33 xa' xc' x' a' cap' ms').In w →
    Calls Try.prog 27 #[.agg #[.int .i64 k, .int .i64 n, .string s, .slice xa x.length xc, .slice a ms.length cap], .agg #[.int .i64 k', .int .i64 n', .string s', .slice xa' x'.length xc', .slice a' ms'.length cap']] w (Ret (.bool (eqSB (.mk k n s x ds) (.mk k' n' s' x' ds'))) w)
theorem iEqualSyntax_calls : ∀ ds, iESs ds := by
  refine Syn.inductL fun ds ih => ?_
  intro k n s x xa xc a cap ms k' n' s' x' xa' xc' a' cap' ds' ms' w hi hown hi' hown'
  have hx := SynIn_x hown
  have hin := SynIn_ms hown
  have hx' := SynIn_x hown'
  have hin' := SynIn_ms hown'
  have hln := hi.length
  have hln' := hi'.length
  have hcapm := hin.len
  have hcapm' := hin'.len
  have hxl := Ints.len hx
  have hxl' := Ints.len hx'
  clear hown hown'
  by_cases hk : k = k'
  · subst hk
    by_cases hn : n = n'
    · subst hn
      by_cases hs : s = s'
      · subst hs
        by_cases hxx : x = x'
        · subst hxx
          have hsx : eqL x x = true := (eqL_iff _ _).2 rfl
          by_cases hl : ms.length = ms'.length
          · have hl' : ((ms.length : Int) != (ms'.length : Int)) = false := by simp [hl]
            have IH := Lib.hid ih; clear ih; have HIN := Lib.hid hin; clear hin; have HI := Lib.hid hi; clear hi; have HIN' := Lib.hid hin'; clear hin'; have HI' := Lib.hid hi'; clear hi'; have HLN := Lib.hid hln; clear hln; have HLN' := Lib.hid hln'; clear hln'; have HL := Lib.hid hl; clear hl; have HX := Lib.hid hx; clear hx; have HX' := Lib.hid hx'; clear hx'
            go_enter Try.func27, Try.ntmps27
            go_wp2_with fail
            refine (sameInts_calls xa xc x xa' xc' x _ (HX.out.below (by (repeat (first | with_reducible assumption | with_reducible exact Below.refl _ _ | with_reducible refine Below.drew ?_ | with_reducible refine belowDrewN ?_ _ | ((with_reducible refine Below.setCell ?_ ?_ _); rotate_left; focus (first | omega | (simp; done) | (simp; omega))) | ((with_reducible refine Below.alloc ?_ ?_ _); rotate_left; focus (first | omega | (simp; done) | (simp; omega))))))) (HX'.out.below (by (repeat (first | with_reducible assumption | with_reducible exact Below.refl _ _ | with_reducible refine Below.drew ?_ | with_reducible refine belowDrewN ?_ _ | ((with_reducible refine Below.setCell ?_ ?_ _); rotate_left; focus (first | omega | (simp; done) | (simp; omega))) | ((with_reducible refine Below.alloc ?_ ?_ _); rotate_left; focus (first | omega | (simp; done) | (simp; omega)))))))).mono ?_
            rintro e w0 ⟨rfl, hb0⟩
            obtain ⟨hc0, hf0⟩ := bcell hb0; have hz0 := hb0.size; (try simp only [World.size_alloc, World.size_setCell, World.size_drew, sizeDrewN] at hz0 hc0 hf0); have hp0_0 : w.heap.size < w0.heap.size := (by omega); have hp0_1 : w.heap.size + 1 < w0.heap.size := (by omega)
            go_wp2_with fail
            go_loopw [45] (fun i wr => ∃ j : Nat, j ≤ ms.length ∧ i = .int .i64 j ∧ ds.take j = ds'.take j ∧ wr.cell? ⟨w.heap.size, 4, none⟩ = some (.slice a ms.length cap) ∧ wr.cell? ⟨w.heap.size + 1, 4, none⟩ = some (.slice a' ms'.length cap') ∧ Below w.heap.size w wr ∧ w.heap.size + 1 + 1 ≤ wr.heap.size) (fun i _ => ms.length - (intOf i).toNat)
            case atStart => exact ⟨0, Nat.zero_le _, rfl, by simp, by simp (disch := first | omega | (simp; done)) [hc0, go_sem], by simp (disch := first | omega | (simp; done)) [hc0, go_sem], by (repeat (first | with_reducible assumption | with_reducible exact Below.refl _ _ | with_reducible refine Below.drew ?_ | with_reducible refine belowDrewN ?_ _ | ((with_reducible refine Below.setCell ?_ ?_ _); rotate_left; focus (first | omega | (simp; done) | (simp; omega))) | ((with_reducible refine Below.alloc ?_ ?_ _); rotate_left; focus (first | omega | (simp; done) | (simp; omega))) | ((with_reducible refine Below.trans ?_ (Below.mono hb0 ?_)); rotate_left; focus (first | omega | (simp; done) | (simp; omega))))), by omega⟩
            case round =>
              clear hc0 hf0
              obtain ⟨j, hj, rfl, hpre, q1, q2, hb, hsz⟩ := hrel
              by_cases hlt : j < ms.length
              · have hlt' : j < ms'.length := by have := HL.out; omega
                obtain ⟨b, off, k1, n1, s1, x1, ds1, xa1, xc1, a1, cap1, ms1, rfl, hd, hi1, hx1, hin1, c0, c1, c2, c3, c4⟩ := Syn.elem (HIN.out.below hb) HI.out j hlt
                obtain ⟨b', off', k1', n1', s1', x1', ds1', xa1', xc1', a1', cap1', ms1', rfl, hd', hi1', hx1', hin1', c0', c1', c2', c3', c4'⟩ := Syn.elem (HIN'.out.below hb) HI'.out j hlt'
                have hbl := World.block_lt_of_cell? wr _ c0
                have hbl' := World.block_lt_of_cell? wr _ c0'
                have p1 : w.heap.size < wr.heap.size := by omega
                have p2 : w.heap.size + 1 < wr.heap.size := by omega
                by_cases heq : Syn.mk k1 n1 s1 x1 ds1 = Syn.mk k1' n1' s1' x1' ds1'
                · have hq : eqSB (Syn.mk k1 n1 s1 x1 ds1) (Syn.mk k1' n1' s1' x1' ds1') = true := (eqSB_iff _ _).2 heq
                  have hpre2 := take_eq_succ hpre hd hd' heq
                  have HI1 := Lib.hid hi1; clear hi1; have HIN1 := Lib.hid hin1; clear hin1; have HI1' := Lib.hid hi1'; clear hi1'; have HIN1' := Lib.hid hin1'; clear hin1'; have HD := Lib.hid hd; clear hd; have HD' := Lib.hid hd'; clear hd'; have HPRE := Lib.hid hpre; clear hpre; have HPRE2 := Lib.hid hpre2; clear hpre2; have HEQ := Lib.hid heq; clear heq; have HX1 := Lib.hid hx1; clear hx1; have HX1' := Lib.hid hx1'; clear hx1'
                  go_wp2_with fail
                  go_region_held3 (fun w' => (w'.cell? ⟨w.heap.size, 4, none⟩ = some (.slice (some ⟨b, off, none⟩) ms.length cap) ∧ w'.cell? ⟨w.heap.size + 1, 4, none⟩ = some (.slice (some ⟨b', off', none⟩) ms'.length cap')) ∧ (w'.cell? ⟨b, off + j * 5, none⟩ = some (.int .i64 k1) ∧ w'.cell? ⟨b, off + j * 5 + 1, none⟩ = some (.int .i64 n1) ∧ w'.cell? ⟨b, off + j * 5 + 2, none⟩ = some (.string s1) ∧ w'.cell? ⟨b, off + j * 5 + 3, none⟩ = some (.slice xa1 x1.length xc1) ∧ w'.cell? ⟨b, off + j * 5 + 4, none⟩ = some (.slice a1 ms1.length cap1) ∧ w'.cell? ⟨b', off' + j * 5, none⟩ = some (.int .i64 k1') ∧ w'.cell? ⟨b', off' + j * 5 + 1, none⟩ = some (.int .i64 n1') ∧ w'.cell? ⟨b', off' + j * 5 + 2, none⟩ = some (.string s1') ∧ w'.cell? ⟨b', off' + j * 5 + 3, none⟩ = some (.slice xa1' x1'.length xc1') ∧ w'.cell? ⟨b', off' + j * 5 + 4, none⟩ = some (.slice a1' ms1'.length cap1')))
                    (first | exact ⟨⟨q1, q2⟩, c0, c1, c2, c3, c4, c0', c1', c2', c3', c4'⟩ | exact ⟨⟨(hc1 _ _ p1).trans q1, (hc1 _ _ p2).trans q2⟩, (hc1 _ _ hbl).trans c0, (hc1 _ _ hbl).trans c1, (hc1 _ _ hbl).trans c2, (hc1 _ _ hbl).trans c3, (hc1 _ _ hbl).trans c4, (hc1 _ _ hbl').trans c0', (hc1 _ _ hbl').trans c1', (hc1 _ _ hbl').trans c2', (hc1 _ _ hbl').trans c3', (hc1 _ _ hbl').trans c4'⟩)
                    (first | (go_at_call 27; refine (IH.out k1 n1 s1 x1 ds1 (List.mem_of_getElem? HD.out) k1 n1 s1 x1 xa1 xc1 a1 cap1 ms1 k1' n1' s1' x1' xa1' xc1' a1' cap1' ds1' ms1' _ HI1.out (SynIn_mk (HX1.out.below (by (repeat (first | with_reducible assumption | with_reducible exact Below.refl _ _ | with_reducible refine Below.drew ?_ | with_reducible refine belowDrewN ?_ _ | ((with_reducible refine Below.setCell ?_ ?_ _); rotate_left; focus (first | omega | (simp; done) | (simp; omega))) | ((with_reducible refine Below.alloc ?_ ?_ _); rotate_left; focus (first | omega | (simp; done) | (simp; omega))))))) (HIN1.out.below (by (repeat (first | with_reducible assumption | with_reducible exact Below.refl _ _ | with_reducible refine Below.drew ?_ | with_reducible refine belowDrewN ?_ _ | ((with_reducible refine Below.setCell ?_ ?_ _); rotate_left; focus (first | omega | (simp; done) | (simp; omega))) | ((with_reducible refine Below.alloc ?_ ?_ _); rotate_left; focus (first | omega | (simp; done) | (simp; omega)))))))) HI1'.out (SynIn_mk (HX1'.out.below (by (repeat (first | with_reducible assumption | with_reducible exact Below.refl _ _ | with_reducible refine Below.drew ?_ | with_reducible refine belowDrewN ?_ _ | ((with_reducible refine Below.setCell ?_ ?_ _); rotate_left; focus (first | omega | (simp; done) | (simp; omega))) | ((with_reducible refine Below.alloc ?_ ?_ _); rotate_left; focus (first | omega | (simp; done) | (simp; omega))))))) (HIN1'.out.below (by (repeat (first | with_reducible assumption | with_reducible exact Below.refl _ _ | with_reducible refine Below.drew ?_ | with_reducible refine belowDrewN ?_ _ | ((with_reducible refine Below.setCell ?_ ?_ _); rotate_left; focus (first | omega | (simp; done) | (simp; omega))) | ((with_reducible refine Below.alloc ?_ ?_ _); rotate_left; focus (first | omega | (simp; done) | (simp; omega))))))))).mono ?_; rintro e w1 ⟨rfl, hb1⟩; obtain ⟨hc1, hf1⟩ := bcell hb1))
                  have hz1 := hb1.size
                  simp only [World.size_drew] at hz1
                  have q1' := (hc1 _ _ p1).trans q1
                  have q2' := (hc1 _ _ p2).trans q2
                  go_wp2_with fail
                  go_roundw
                  case rel => exact ⟨j + 1, by omega, by go_num, HPRE2.out, q1', q2', by (repeat (first | with_reducible assumption | with_reducible exact Below.refl _ _ | with_reducible refine Below.drew ?_ | with_reducible refine belowDrewN ?_ _ | ((with_reducible refine Below.setCell ?_ ?_ _); rotate_left; focus (first | omega | (simp; done) | (simp; omega))) | ((with_reducible refine Below.alloc ?_ ?_ _); rotate_left; focus (first | omega | (simp; done) | (simp; omega))) | ((with_reducible refine Below.trans ?_ (Below.mono hb1 ?_)); rotate_left; focus (first | omega | (simp; done) | (simp; omega))))), by omega⟩
                  case measure => simp [intOf]; omega
                · have hq : eqSB (Syn.mk k1 n1 s1 x1 ds1) (Syn.mk k1' n1' s1' x1' ds1') = false := (eqSB_not _ _).2 heq
                  have hne := ne_of_get hd hd' heq
                  have HI1 := Lib.hid hi1; clear hi1; have HIN1 := Lib.hid hin1; clear hin1; have HI1' := Lib.hid hi1'; clear hi1'; have HIN1' := Lib.hid hin1'; clear hin1'; have HD := Lib.hid hd; clear hd; have HD' := Lib.hid hd'; clear hd'; have HPRE := Lib.hid hpre; clear hpre; have HNE := Lib.hid hne; clear hne; have HEQ := Lib.hid heq; clear heq; have HX1 := Lib.hid hx1; clear hx1; have HX1' := Lib.hid hx1'; clear hx1'
                  go_wp2_with fail
                  go_region_held3 (fun w' => (w'.cell? ⟨w.heap.size, 4, none⟩ = some (.slice (some ⟨b, off, none⟩) ms.length cap) ∧ w'.cell? ⟨w.heap.size + 1, 4, none⟩ = some (.slice (some ⟨b', off', none⟩) ms'.length cap')) ∧ (w'.cell? ⟨b, off + j * 5, none⟩ = some (.int .i64 k1) ∧ w'.cell? ⟨b, off + j * 5 + 1, none⟩ = some (.int .i64 n1) ∧ w'.cell? ⟨b, off + j * 5 + 2, none⟩ = some (.string s1) ∧ w'.cell? ⟨b, off + j * 5 + 3, none⟩ = some (.slice xa1 x1.length xc1) ∧ w'.cell? ⟨b, off + j * 5 + 4, none⟩ = some (.slice a1 ms1.length cap1) ∧ w'.cell? ⟨b', off' + j * 5, none⟩ = some (.int .i64 k1') ∧ w'.cell? ⟨b', off' + j * 5 + 1, none⟩ = some (.int .i64 n1') ∧ w'.cell? ⟨b', off' + j * 5 + 2, none⟩ = some (.string s1') ∧ w'.cell? ⟨b', off' + j * 5 + 3, none⟩ = some (.slice xa1' x1'.length xc1') ∧ w'.cell? ⟨b', off' + j * 5 + 4, none⟩ = some (.slice a1' ms1'.length cap1')))
                    (first | exact ⟨⟨q1, q2⟩, c0, c1, c2, c3, c4, c0', c1', c2', c3', c4'⟩ | exact ⟨⟨(hc1 _ _ p1).trans q1, (hc1 _ _ p2).trans q2⟩, (hc1 _ _ hbl).trans c0, (hc1 _ _ hbl).trans c1, (hc1 _ _ hbl).trans c2, (hc1 _ _ hbl).trans c3, (hc1 _ _ hbl).trans c4, (hc1 _ _ hbl').trans c0', (hc1 _ _ hbl').trans c1', (hc1 _ _ hbl').trans c2', (hc1 _ _ hbl').trans c3', (hc1 _ _ hbl').trans c4'⟩)
                    (first | (go_at_call 27; refine (IH.out k1 n1 s1 x1 ds1 (List.mem_of_getElem? HD.out) k1 n1 s1 x1 xa1 xc1 a1 cap1 ms1 k1' n1' s1' x1' xa1' xc1' a1' cap1' ds1' ms1' _ HI1.out (SynIn_mk (HX1.out.below (by (repeat (first | with_reducible assumption | with_reducible exact Below.refl _ _ | with_reducible refine Below.drew ?_ | with_reducible refine belowDrewN ?_ _ | ((with_reducible refine Below.setCell ?_ ?_ _); rotate_left; focus (first | omega | (simp; done) | (simp; omega))) | ((with_reducible refine Below.alloc ?_ ?_ _); rotate_left; focus (first | omega | (simp; done) | (simp; omega))))))) (HIN1.out.below (by (repeat (first | with_reducible assumption | with_reducible exact Below.refl _ _ | with_reducible refine Below.drew ?_ | with_reducible refine belowDrewN ?_ _ | ((with_reducible refine Below.setCell ?_ ?_ _); rotate_left; focus (first | omega | (simp; done) | (simp; omega))) | ((with_reducible refine Below.alloc ?_ ?_ _); rotate_left; focus (first | omega | (simp; done) | (simp; omega)))))))) HI1'.out (SynIn_mk (HX1'.out.below (by (repeat (first | with_reducible assumption | with_reducible exact Below.refl _ _ | with_reducible refine Below.drew ?_ | with_reducible refine belowDrewN ?_ _ | ((with_reducible refine Below.setCell ?_ ?_ _); rotate_left; focus (first | omega | (simp; done) | (simp; omega))) | ((with_reducible refine Below.alloc ?_ ?_ _); rotate_left; focus (first | omega | (simp; done) | (simp; omega))))))) (HIN1'.out.below (by (repeat (first | with_reducible assumption | with_reducible exact Below.refl _ _ | with_reducible refine Below.drew ?_ | with_reducible refine belowDrewN ?_ _ | ((with_reducible refine Below.setCell ?_ ?_ _); rotate_left; focus (first | omega | (simp; done) | (simp; omega))) | ((with_reducible refine Below.alloc ?_ ?_ _); rotate_left; focus (first | omega | (simp; done) | (simp; omega))))))))).mono ?_; rintro e w1 ⟨rfl, hb1⟩; obtain ⟨hc1, hf1⟩ := bcell hb1))
                  go_wp2_with fail
                  go_ret
                  exact ⟨ret_b ((eqSB_not _ _).2 (by intro e; simp only [Syn.mk.injEq] at e; exact HNE.out e.2.2.2.2)).symm, by (repeat (first | with_reducible assumption | with_reducible exact Below.refl _ _ | with_reducible refine Below.drew ?_ | with_reducible refine belowDrewN ?_ _ | ((with_reducible refine Below.setCell ?_ ?_ _); rotate_left; focus (first | omega | (simp; done) | (simp; omega))) | ((with_reducible refine Below.alloc ?_ ?_ _); rotate_left; focus (first | omega | (simp; done) | (simp; omega))) | ((with_reducible refine Below.trans ?_ (Below.mono hb1 ?_)); rotate_left; focus (first | omega | (simp; done) | (simp; omega)))))⟩
              · go_wp2_with fail
                go_ret
                have hj2 : j = ms.length := by omega
                subst hj2
                refine ⟨ret_b ((eqSB_iff _ _).2 ?_).symm, hb⟩
                have hpre' := hpre
                rw [HLN.out, List.take_length, ← HLN.out, HL.out, HLN'.out, List.take_length] at hpre'
                rw [hpre']
          · have hl' : ((ms.length : Int) != (ms'.length : Int)) = true := by simp; omega
            have IH := Lib.hid ih; clear ih; have HIN := Lib.hid hin; clear hin; have HI := Lib.hid hi; clear hi; have HIN' := Lib.hid hin'; clear hin'; have HI' := Lib.hid hi'; clear hi'; have HLN := Lib.hid hln; clear hln; have HLN' := Lib.hid hln'; clear hln'; have HL := Lib.hid hl; clear hl; have HX := Lib.hid hx; clear hx; have HX' := Lib.hid hx'; clear hx'
            go_enter Try.func27, Try.ntmps27
            go_wp2_with fail
            refine (sameInts_calls xa xc x xa' xc' x _ (HX.out.below (by (repeat (first | with_reducible assumption | with_reducible exact Below.refl _ _ | with_reducible refine Below.drew ?_ | with_reducible refine belowDrewN ?_ _ | ((with_reducible refine Below.setCell ?_ ?_ _); rotate_left; focus (first | omega | (simp; done) | (simp; omega))) | ((with_reducible refine Below.alloc ?_ ?_ _); rotate_left; focus (first | omega | (simp; done) | (simp; omega))))))) (HX'.out.below (by (repeat (first | with_reducible assumption | with_reducible exact Below.refl _ _ | with_reducible refine Below.drew ?_ | with_reducible refine belowDrewN ?_ _ | ((with_reducible refine Below.setCell ?_ ?_ _); rotate_left; focus (first | omega | (simp; done) | (simp; omega))) | ((with_reducible refine Below.alloc ?_ ?_ _); rotate_left; focus (first | omega | (simp; done) | (simp; omega)))))))).mono ?_
            rintro e w0 ⟨rfl, hb0⟩
            obtain ⟨hc0, hf0⟩ := bcell hb0; have hz0 := hb0.size; (try simp only [World.size_alloc, World.size_setCell, World.size_drew, sizeDrewN] at hz0 hc0 hf0); have hp0_0 : w.heap.size < w0.heap.size := (by omega); have hp0_1 : w.heap.size + 1 < w0.heap.size := (by omega)
            go_wp2_with fail
            go_ret
            exact ⟨ret_b ((eqSB_not _ _).2 (by intro e; simp only [Syn.mk.injEq] at e; exact HL.out (by rw [HLN.out, HLN'.out, e.2.2.2.2]))).symm, by (repeat (first | with_reducible assumption | with_reducible exact Below.refl _ _ | with_reducible refine Below.drew ?_ | with_reducible refine belowDrewN ?_ _ | ((with_reducible refine Below.setCell ?_ ?_ _); rotate_left; focus (first | omega | (simp; done) | (simp; omega))) | ((with_reducible refine Below.alloc ?_ ?_ _); rotate_left; focus (first | omega | (simp; done) | (simp; omega))) | ((with_reducible refine Below.trans ?_ (Below.mono hb0 ?_)); rotate_left; focus (first | omega | (simp; done) | (simp; omega)))))⟩
        · have hsx : eqL x x' = false := (eqL_not _ _).2 hxx
          have IH := Lib.hid ih; clear ih; have HIN := Lib.hid hin; clear hin; have HI := Lib.hid hi; clear hi; have HIN' := Lib.hid hin'; clear hin'; have HI' := Lib.hid hi'; clear hi'; have HLN := Lib.hid hln; clear hln; have HLN' := Lib.hid hln'; clear hln'; have HXX := Lib.hid hxx; clear hxx; have HX := Lib.hid hx; clear hx; have HX' := Lib.hid hx'; clear hx'
          go_enter Try.func27, Try.ntmps27
          go_wp2_with fail
          refine (sameInts_calls xa xc x xa' xc' x' _ (HX.out.below (by (repeat (first | with_reducible assumption | with_reducible exact Below.refl _ _ | with_reducible refine Below.drew ?_ | with_reducible refine belowDrewN ?_ _ | ((with_reducible refine Below.setCell ?_ ?_ _); rotate_left; focus (first | omega | (simp; done) | (simp; omega))) | ((with_reducible refine Below.alloc ?_ ?_ _); rotate_left; focus (first | omega | (simp; done) | (simp; omega))))))) (HX'.out.below (by (repeat (first | with_reducible assumption | with_reducible exact Below.refl _ _ | with_reducible refine Below.drew ?_ | with_reducible refine belowDrewN ?_ _ | ((with_reducible refine Below.setCell ?_ ?_ _); rotate_left; focus (first | omega | (simp; done) | (simp; omega))) | ((with_reducible refine Below.alloc ?_ ?_ _); rotate_left; focus (first | omega | (simp; done) | (simp; omega)))))))).mono ?_
          rintro e w0 ⟨rfl, hb0⟩
          obtain ⟨hc0, hf0⟩ := bcell hb0; have hz0 := hb0.size; (try simp only [World.size_alloc, World.size_setCell, World.size_drew, sizeDrewN] at hz0 hc0 hf0); have hp0_0 : w.heap.size < w0.heap.size := (by omega); have hp0_1 : w.heap.size + 1 < w0.heap.size := (by omega)
          go_wp2_with fail
          go_ret
          exact ⟨ret_b ((eqSB_not _ _).2 (by intro e; simp only [Syn.mk.injEq] at e; exact HXX.out e.2.2.2.1)).symm, by (repeat (first | with_reducible assumption | with_reducible exact Below.refl _ _ | with_reducible refine Below.drew ?_ | with_reducible refine belowDrewN ?_ _ | ((with_reducible refine Below.setCell ?_ ?_ _); rotate_left; focus (first | omega | (simp; done) | (simp; omega))) | ((with_reducible refine Below.alloc ?_ ?_ _); rotate_left; focus (first | omega | (simp; done) | (simp; omega))) | ((with_reducible refine Below.trans ?_ (Below.mono hb0 ?_)); rotate_left; focus (first | omega | (simp; done) | (simp; omega)))))⟩
      · have hb := ba_ne hs
        have IH := Lib.hid ih; clear ih; have HIN := Lib.hid hin; clear hin; have HI := Lib.hid hi; clear hi; have HIN' := Lib.hid hin'; clear hin'; have HI' := Lib.hid hi'; clear hi'; have HLN := Lib.hid hln; clear hln; have HLN' := Lib.hid hln'; clear hln'; have HS := Lib.hid hs; clear hs; have HX := Lib.hid hx; clear hx; have HX' := Lib.hid hx'; clear hx'
        go_enter Try.func27, Try.ntmps27
        go_wp2_with fail
        go_ret
        exact ⟨ret_b ((eqSB_not _ _).2 (by intro e; simp only [Syn.mk.injEq] at e; exact HS.out e.2.2.1)).symm, by (repeat (first | with_reducible assumption | with_reducible exact Below.refl _ _ | with_reducible refine Below.drew ?_ | with_reducible refine belowDrewN ?_ _ | ((with_reducible refine Below.setCell ?_ ?_ _); rotate_left; focus (first | omega | (simp; done) | (simp; omega))) | ((with_reducible refine Below.alloc ?_ ?_ _); rotate_left; focus (first | omega | (simp; done) | (simp; omega)))))⟩
    · have hb : (n != n') = true := by simp [hn]
      have IH := Lib.hid ih; clear ih; have HIN := Lib.hid hin; clear hin; have HI := Lib.hid hi; clear hi; have HIN' := Lib.hid hin'; clear hin'; have HI' := Lib.hid hi'; clear hi'; have HLN := Lib.hid hln; clear hln; have HLN' := Lib.hid hln'; clear hln'; have HN := Lib.hid hn; clear hn; have HX := Lib.hid hx; clear hx; have HX' := Lib.hid hx'; clear hx'
      go_enter Try.func27, Try.ntmps27
      go_wp2_with fail
      go_ret
      exact ⟨ret_b ((eqSB_not _ _).2 (by intro e; simp only [Syn.mk.injEq] at e; exact HN.out e.2.1)).symm, by (repeat (first | with_reducible assumption | with_reducible exact Below.refl _ _ | with_reducible refine Below.drew ?_ | with_reducible refine belowDrewN ?_ _ | ((with_reducible refine Below.setCell ?_ ?_ _); rotate_left; focus (first | omega | (simp; done) | (simp; omega))) | ((with_reducible refine Below.alloc ?_ ?_ _); rotate_left; focus (first | omega | (simp; done) | (simp; omega)))))⟩
  · have hb : (k != k') = true := by simp [hk]
    have IH := Lib.hid ih; clear ih; have HIN := Lib.hid hin; clear hin; have HI := Lib.hid hi; clear hi; have HIN' := Lib.hid hin'; clear hin'; have HI' := Lib.hid hi'; clear hi'; have HLN := Lib.hid hln; clear hln; have HLN' := Lib.hid hln'; clear hln'; have HK := Lib.hid hk; clear hk; have HX := Lib.hid hx; clear hx; have HX' := Lib.hid hx'; clear hx'
    go_enter Try.func27, Try.ntmps27
    go_wp2_with fail
    go_ret
    exact ⟨ret_b ((eqSB_not _ _).2 (by intro e; simp only [Syn.mk.injEq] at e; exact HK.out e.1)).symm, by (repeat (first | with_reducible assumption | with_reducible exact Below.refl _ _ | with_reducible refine Below.drew ?_ | with_reducible refine belowDrewN ?_ _ | ((with_reducible refine Below.setCell ?_ ?_ _); rotate_left; focus (first | omega | (simp; done) | (simp; omega))) | ((with_reducible refine Below.alloc ?_ ?_ _); rotate_left; focus (first | omega | (simp; done) | (simp; omega)))))⟩
end Go.Proofs.Ytigmgfinjapchaa
