/-
  Walks: EqualData. No condition.
-/
import Derived.Test.YtoflfamfhpijcaaD1
set_option linter.unusedVariables false
set_option linter.unusedSimpArgs false
set_option maxRecDepth 100000
namespace Go.Proofs.Ytoflfamfhpijcaa
open Go.RowKit

open Classical in
noncomputable def eqDB (x y : Dat) : Bool := decide (x = y)
theorem eqDB_iff (x y : Dat) : eqDB x y = true ↔ x = y := by simp [eqDB]
theorem eqDB_not (x y : Dat) : eqDB x y = false ↔ ¬ x = y := by simp [eqDB]
def iEDs (ds : List Dat) : Prop := ∀ (k n : Int) (s : ByteArray) (a : Option Addr) (cap : Nat) (ms : List M) (k' n' : Int) (s' : ByteArray) (a' : Option Addr) (cap' : Nat) (ds' : List Dat) (ms' : List M) (w : World),
    Dat.IsL 31 ds ms → (M.sl a cap 4 31 ms).In w → Dat.IsL 31 ds' ms' → (M.sl a' cap' 4 31 ms').In w →
    Calls Try.prog 16 #[.agg #[.int .i64 k, .int .i64 n, .string s, .slice a ms.length cap], .agg #[.int .i64 k', .int .i64 n', .string s', .slice a' ms'.length cap']] w (Ret (.bool (eqDB (.mk k n s ds) (.mk k' n' s' ds'))) w)
theorem iEqualData_calls : ∀ ds, iEDs ds := by
  refine Dat.inductL fun ds ih => ?_
  intro k n s a cap ms k' n' s' a' cap' ds' ms' w hi hin hi' hin'
  have hln := hi.length
  have hln' := hi'.length
  have hcapm := hin.len
  have hcapm' := hin'.len
  by_cases hk : k = k'
  · subst hk
    by_cases hn : n = n'
    · subst hn
      by_cases hs : s = s'
      · subst hs
        by_cases hl : ms.length = ms'.length
        · have hl' : ((ms.length : Int) != (ms'.length : Int)) = false := by simp [hl]
          have IH := Lib.hid ih; clear ih; have HIN := Lib.hid hin; clear hin; have HI := Lib.hid hi; clear hi; have HIN' := Lib.hid hin'; clear hin'; have HI' := Lib.hid hi'; clear hi'; have HLN := Lib.hid hln; clear hln; have HLN' := Lib.hid hln'; clear hln'; have HL := Lib.hid hl; clear hl
          go_enter Try.func16, Try.ntmps16
          go_wp2_with fail
          go_loopw [37] (fun i wr => ∃ j : Nat, j ≤ ms.length ∧ i = .int .i64 j ∧ ds.take j = ds'.take j ∧ wr.cell? ⟨w.heap.size, 3, none⟩ = some (.slice a ms.length cap) ∧ wr.cell? ⟨w.heap.size + 1, 3, none⟩ = some (.slice a' ms'.length cap') ∧ Below w.heap.size w wr ∧ w.heap.size + 1 + 1 ≤ wr.heap.size) (fun i _ => ms.length - (intOf i).toNat)
          case atStart => exact ⟨0, Nat.zero_le _, rfl, by simp, by simp [go_sem], by simp [go_sem], by (repeat (first | with_reducible assumption | with_reducible exact Below.refl _ _ | with_reducible refine Below.drew ?_ | with_reducible refine belowDrewN ?_ _ | ((with_reducible refine Below.setCell ?_ ?_ _); rotate_left; focus (first | omega | (simp; done) | (simp; omega))) | ((with_reducible refine Below.alloc ?_ ?_ _); rotate_left; focus (first | omega | (simp; done) | (simp; omega))))), by simp⟩
          case round =>
            obtain ⟨j, hj, rfl, hpre, q1, q2, hb, hsz⟩ := hrel
            by_cases hlt : j < ms.length
            · have hlt' : j < ms'.length := by have := HL.out; omega
              obtain ⟨b, off, k1, n1, s1, ds1, a1, cap1, ms1, rfl, hd, hi1, hin1, c0, c1, c2, c3⟩ := Dat.elem (HIN.out.below hb) HI.out j hlt
              obtain ⟨b', off', k1', n1', s1', ds1', a1', cap1', ms1', rfl, hd', hi1', hin1', c0', c1', c2', c3'⟩ := Dat.elem (HIN'.out.below hb) HI'.out j hlt'
              have hbl := World.block_lt_of_cell? wr _ c0
              have hbl' := World.block_lt_of_cell? wr _ c0'
              have p1 : w.heap.size < wr.heap.size := by omega
              have p2 : w.heap.size + 1 < wr.heap.size := by omega
              by_cases heq : Dat.mk k1 n1 s1 ds1 = Dat.mk k1' n1' s1' ds1'
              · have hq : eqDB (Dat.mk k1 n1 s1 ds1) (Dat.mk k1' n1' s1' ds1') = true := (eqDB_iff _ _).2 heq
                have hpre2 := take_eq_succ hpre hd hd' heq
                have HI1 := Lib.hid hi1; clear hi1; have HIN1 := Lib.hid hin1; clear hin1; have HI1' := Lib.hid hi1'; clear hi1'; have HIN1' := Lib.hid hin1'; clear hin1'; have HD := Lib.hid hd; clear hd; have HD' := Lib.hid hd'; clear hd'; have HPRE := Lib.hid hpre; clear hpre; have HPRE2 := Lib.hid hpre2; clear hpre2; have HEQ := Lib.hid heq; clear heq
                go_wp2_with fail
                go_region_held3 (fun w' => (w'.cell? ⟨w.heap.size, 3, none⟩ = some (.slice (some ⟨b, off, none⟩) ms.length cap) ∧ w'.cell? ⟨w.heap.size + 1, 3, none⟩ = some (.slice (some ⟨b', off', none⟩) ms'.length cap')) ∧ w'.cell? ⟨b, off + j * 4, none⟩ = some (.int .i64 k1) ∧ w'.cell? ⟨b, off + j * 4 + 1, none⟩ = some (.int .i64 n1) ∧ w'.cell? ⟨b, off + j * 4 + 2, none⟩ = some (.string s1) ∧ w'.cell? ⟨b, off + j * 4 + 3, none⟩ = some (.slice a1 ms1.length cap1) ∧ w'.cell? ⟨b', off' + j * 4, none⟩ = some (.int .i64 k1') ∧ w'.cell? ⟨b', off' + j * 4 + 1, none⟩ = some (.int .i64 n1') ∧ w'.cell? ⟨b', off' + j * 4 + 2, none⟩ = some (.string s1') ∧ w'.cell? ⟨b', off' + j * 4 + 3, none⟩ = some (.slice a1' ms1'.length cap1'))
                  (first | exact ⟨⟨q1, q2⟩, c0, c1, c2, c3, c0', c1', c2', c3'⟩ | exact ⟨⟨(hc1 _ _ p1).trans q1, (hc1 _ _ p2).trans q2⟩, (hc1 _ _ hbl).trans c0, (hc1 _ _ hbl).trans c1, (hc1 _ _ hbl).trans c2, (hc1 _ _ hbl).trans c3, (hc1 _ _ hbl').trans c0', (hc1 _ _ hbl').trans c1', (hc1 _ _ hbl').trans c2', (hc1 _ _ hbl').trans c3'⟩)
                  (first | (go_at_call 16; refine (IH.out k1 n1 s1 ds1 (List.mem_of_getElem? HD.out) k1 n1 s1 a1 cap1 ms1 k1' n1' s1' a1' cap1' ds1' ms1' _ HI1.out (HIN1.out.below (by (repeat (first | with_reducible assumption | with_reducible exact Below.refl _ _ | with_reducible refine Below.drew ?_ | with_reducible refine belowDrewN ?_ _ | ((with_reducible refine Below.setCell ?_ ?_ _); rotate_left; focus (first | omega | (simp; done) | (simp; omega))) | ((with_reducible refine Below.alloc ?_ ?_ _); rotate_left; focus (first | omega | (simp; done) | (simp; omega))))))) HI1'.out (HIN1'.out.below (by (repeat (first | with_reducible assumption | with_reducible exact Below.refl _ _ | with_reducible refine Below.drew ?_ | with_reducible refine belowDrewN ?_ _ | ((with_reducible refine Below.setCell ?_ ?_ _); rotate_left; focus (first | omega | (simp; done) | (simp; omega))) | ((with_reducible refine Below.alloc ?_ ?_ _); rotate_left; focus (first | omega | (simp; done) | (simp; omega)))))))).mono ?_; rintro e w1 ⟨rfl, hb1⟩; obtain ⟨hc1, hf1⟩ := bcell hb1))
                have hz1 := hb1.size
                simp only [World.size_drew] at hz1
                have q1' := (hc1 _ _ p1).trans q1
                have q2' := (hc1 _ _ p2).trans q2
                go_wp2_with fail
                go_roundw
                case rel => exact ⟨j + 1, by omega, by go_num, HPRE2.out, q1', q2', by (repeat (first | with_reducible assumption | with_reducible exact Below.refl _ _ | with_reducible refine Below.drew ?_ | with_reducible refine belowDrewN ?_ _ | ((with_reducible refine Below.setCell ?_ ?_ _); rotate_left; focus (first | omega | (simp; done) | (simp; omega))) | ((with_reducible refine Below.alloc ?_ ?_ _); rotate_left; focus (first | omega | (simp; done) | (simp; omega))) | ((with_reducible refine Below.trans ?_ (Below.mono hb1 ?_)); rotate_left; focus (first | omega | (simp; done) | (simp; omega))))), by omega⟩
                case measure => simp [intOf]; omega
              · have hq : eqDB (Dat.mk k1 n1 s1 ds1) (Dat.mk k1' n1' s1' ds1') = false := (eqDB_not _ _).2 heq
                have hne := ne_of_get hd hd' heq
                have HI1 := Lib.hid hi1; clear hi1; have HIN1 := Lib.hid hin1; clear hin1; have HI1' := Lib.hid hi1'; clear hi1'; have HIN1' := Lib.hid hin1'; clear hin1'; have HD := Lib.hid hd; clear hd; have HD' := Lib.hid hd'; clear hd'; have HPRE := Lib.hid hpre; clear hpre; have HNE := Lib.hid hne; clear hne; have HEQ := Lib.hid heq; clear heq
                go_wp2_with fail
                go_region_held3 (fun w' => (w'.cell? ⟨w.heap.size, 3, none⟩ = some (.slice (some ⟨b, off, none⟩) ms.length cap) ∧ w'.cell? ⟨w.heap.size + 1, 3, none⟩ = some (.slice (some ⟨b', off', none⟩) ms'.length cap')) ∧ w'.cell? ⟨b, off + j * 4, none⟩ = some (.int .i64 k1) ∧ w'.cell? ⟨b, off + j * 4 + 1, none⟩ = some (.int .i64 n1) ∧ w'.cell? ⟨b, off + j * 4 + 2, none⟩ = some (.string s1) ∧ w'.cell? ⟨b, off + j * 4 + 3, none⟩ = some (.slice a1 ms1.length cap1) ∧ w'.cell? ⟨b', off' + j * 4, none⟩ = some (.int .i64 k1') ∧ w'.cell? ⟨b', off' + j * 4 + 1, none⟩ = some (.int .i64 n1') ∧ w'.cell? ⟨b', off' + j * 4 + 2, none⟩ = some (.string s1') ∧ w'.cell? ⟨b', off' + j * 4 + 3, none⟩ = some (.slice a1' ms1'.length cap1'))
                  (first | exact ⟨⟨q1, q2⟩, c0, c1, c2, c3, c0', c1', c2', c3'⟩ | exact ⟨⟨(hc1 _ _ p1).trans q1, (hc1 _ _ p2).trans q2⟩, (hc1 _ _ hbl).trans c0, (hc1 _ _ hbl).trans c1, (hc1 _ _ hbl).trans c2, (hc1 _ _ hbl).trans c3, (hc1 _ _ hbl').trans c0', (hc1 _ _ hbl').trans c1', (hc1 _ _ hbl').trans c2', (hc1 _ _ hbl').trans c3'⟩)
                  (first | (go_at_call 16; refine (IH.out k1 n1 s1 ds1 (List.mem_of_getElem? HD.out) k1 n1 s1 a1 cap1 ms1 k1' n1' s1' a1' cap1' ds1' ms1' _ HI1.out (HIN1.out.below (by (repeat (first | with_reducible assumption | with_reducible exact Below.refl _ _ | with_reducible refine Below.drew ?_ | with_reducible refine belowDrewN ?_ _ | ((with_reducible refine Below.setCell ?_ ?_ _); rotate_left; focus (first | omega | (simp; done) | (simp; omega))) | ((with_reducible refine Below.alloc ?_ ?_ _); rotate_left; focus (first | omega | (simp; done) | (simp; omega))))))) HI1'.out (HIN1'.out.below (by (repeat (first | with_reducible assumption | with_reducible exact Below.refl _ _ | with_reducible refine Below.drew ?_ | with_reducible refine belowDrewN ?_ _ | ((with_reducible refine Below.setCell ?_ ?_ _); rotate_left; focus (first | omega | (simp; done) | (simp; omega))) | ((with_reducible refine Below.alloc ?_ ?_ _); rotate_left; focus (first | omega | (simp; done) | (simp; omega)))))))).mono ?_; rintro e w1 ⟨rfl, hb1⟩; obtain ⟨hc1, hf1⟩ := bcell hb1))
                go_wp2_with fail
                go_ret
                exact ⟨ret_b ((eqDB_not _ _).2 (by intro e; simp only [Dat.mk.injEq] at e; exact HNE.out e.2.2.2)).symm, by (repeat (first | with_reducible assumption | with_reducible exact Below.refl _ _ | with_reducible refine Below.drew ?_ | with_reducible refine belowDrewN ?_ _ | ((with_reducible refine Below.setCell ?_ ?_ _); rotate_left; focus (first | omega | (simp; done) | (simp; omega))) | ((with_reducible refine Below.alloc ?_ ?_ _); rotate_left; focus (first | omega | (simp; done) | (simp; omega))) | ((with_reducible refine Below.trans ?_ (Below.mono hb1 ?_)); rotate_left; focus (first | omega | (simp; done) | (simp; omega)))))⟩
            · go_wp2_with fail
              go_ret
              have hj2 : j = ms.length := by omega
              subst hj2
              refine ⟨ret_b ((eqDB_iff _ _).2 ?_).symm, hb⟩
              have hpre' := hpre
              rw [HLN.out, List.take_length, ← HLN.out, HL.out, HLN'.out, List.take_length] at hpre'
              rw [hpre']
        · have hl' : ((ms.length : Int) != (ms'.length : Int)) = true := by simp; omega
          have IH := Lib.hid ih; clear ih; have HIN := Lib.hid hin; clear hin; have HI := Lib.hid hi; clear hi; have HIN' := Lib.hid hin'; clear hin'; have HI' := Lib.hid hi'; clear hi'; have HLN := Lib.hid hln; clear hln; have HLN' := Lib.hid hln'; clear hln'; have HL := Lib.hid hl; clear hl
          go_enter Try.func16, Try.ntmps16
          go_wp2_with fail
          go_ret
          exact ⟨ret_b ((eqDB_not _ _).2 (by intro e; simp only [Dat.mk.injEq] at e; exact HL.out (by rw [HLN.out, HLN'.out, e.2.2.2]))).symm, by (repeat (first | with_reducible assumption | with_reducible exact Below.refl _ _ | with_reducible refine Below.drew ?_ | with_reducible refine belowDrewN ?_ _ | ((with_reducible refine Below.setCell ?_ ?_ _); rotate_left; focus (first | omega | (simp; done) | (simp; omega))) | ((with_reducible refine Below.alloc ?_ ?_ _); rotate_left; focus (first | omega | (simp; done) | (simp; omega)))))⟩
      · have hb := ba_ne hs
        have IH := Lib.hid ih; clear ih; have HIN := Lib.hid hin; clear hin; have HI := Lib.hid hi; clear hi; have HIN' := Lib.hid hin'; clear hin'; have HI' := Lib.hid hi'; clear hi'; have HLN := Lib.hid hln; clear hln; have HLN' := Lib.hid hln'; clear hln'; have HS := Lib.hid hs; clear hs
        go_enter Try.func16, Try.ntmps16
        go_wp2_with fail
        go_ret
        exact ⟨ret_b ((eqDB_not _ _).2 (by intro e; simp only [Dat.mk.injEq] at e; exact HS.out e.2.2.1)).symm, by (repeat (first | with_reducible assumption | with_reducible exact Below.refl _ _ | with_reducible refine Below.drew ?_ | with_reducible refine belowDrewN ?_ _ | ((with_reducible refine Below.setCell ?_ ?_ _); rotate_left; focus (first | omega | (simp; done) | (simp; omega))) | ((with_reducible refine Below.alloc ?_ ?_ _); rotate_left; focus (first | omega | (simp; done) | (simp; omega)))))⟩
    · have hb : (n != n') = true := by simp [hn]
      have IH := Lib.hid ih; clear ih; have HIN := Lib.hid hin; clear hin; have HI := Lib.hid hi; clear hi; have HIN' := Lib.hid hin'; clear hin'; have HI' := Lib.hid hi'; clear hi'; have HLN := Lib.hid hln; clear hln; have HLN' := Lib.hid hln'; clear hln'; have HN := Lib.hid hn; clear hn
      go_enter Try.func16, Try.ntmps16
      go_wp2_with fail
      go_ret
      exact ⟨ret_b ((eqDB_not _ _).2 (by intro e; simp only [Dat.mk.injEq] at e; exact HN.out e.2.1)).symm, by (repeat (first | with_reducible assumption | with_reducible exact Below.refl _ _ | with_reducible refine Below.drew ?_ | with_reducible refine belowDrewN ?_ _ | ((with_reducible refine Below.setCell ?_ ?_ _); rotate_left; focus (first | omega | (simp; done) | (simp; omega))) | ((with_reducible refine Below.alloc ?_ ?_ _); rotate_left; focus (first | omega | (simp; done) | (simp; omega)))))⟩
  · have hb : (k != k') = true := by simp [hk]
    have IH := Lib.hid ih; clear ih; have HIN := Lib.hid hin; clear hin; have HI := Lib.hid hi; clear hi; have HIN' := Lib.hid hin'; clear hin'; have HI' := Lib.hid hi'; clear hi'; have HLN := Lib.hid hln; clear hln; have HLN' := Lib.hid hln'; clear hln'; have HK := Lib.hid hk; clear hk
    go_enter Try.func16, Try.ntmps16
    go_wp2_with fail
    go_ret
    exact ⟨ret_b ((eqDB_not _ _).2 (by intro e; simp only [Dat.mk.injEq] at e; exact HK.out e.1)).symm, by (repeat (first | with_reducible assumption | with_reducible exact Below.refl _ _ | with_reducible refine Below.drew ?_ | with_reducible refine belowDrewN ?_ _ | ((with_reducible refine Below.setCell ?_ ?_ _); rotate_left; focus (first | omega | (simp; done) | (simp; omega))) | ((with_reducible refine Below.alloc ?_ ?_ _); rotate_left; focus (first | omega | (simp; done) | (simp; omega)))))⟩
end Go.Proofs.Ytoflfamfhpijcaa
