/-
  FnSwapTwice: for every input the call returns true, and each argument reads afterwards as it read before. No condition.
-/
import Derived.Test.YtoflfamfhpijcaaRows
import Derived.Test.YtoflfamfhpijcaaOpen
import Derived.Test.YtoflfamfhpijcaaHead
import Derived.Deep.DeepCutAuto
import Derived.Test.YtoflfamfhpijcaaOpen3
import Derived.Test.YtoflfamfhpijcaaQ9
import Derived.Test.YtoflfamfhpijcaaP4
import Derived.Test.YtoflfamfhpijcaaP5
import Derived.Test.YtoflfamfhpijcaaD5
set_option linter.unusedVariables false
set_option linter.unusedSimpArgs false
set_option maxRecDepth 100000
namespace Go.Proofs.Ytoflfamfhpijcaa
open Go.ChangeShapes Go.WideShapes Go.ChangeAt Go.RowKit

theorem own_ : ownKnob Try.prog.godebug = none := by kernel_rfl
theorem laidOut_ : laidOutB Try.prog = true := by kernel_rfl

theorem sw_twice (k n : Int) (s p q : ByteArray) (ds : List Dat) :
    swSt (swOk k n (swSt (swOk k n s ds p q) k p q s) (swLt (swOk k n s ds p q) p q ds) p q) k p q (swSt (swOk k n s ds p q) k p q s) = s ∧
    swLt (swOk k n (swSt (swOk k n s ds p q) k p q s) (swLt (swOk k n s ds p q) p q ds) p q) p q (swLt (swOk k n s ds p q) p q ds) = ds ∧
    Dat.countL (swLt (swOk k n s ds p q) p q ds) = Dat.countL ds ∧
    isDatB k n (swSt (swOk k n s ds p q) k p q s) (swLt (swOk k n s ds p q) p q ds) = isDatB k n s ds := by
  cases hb : swOk k n s ds p q with
  | false =>
    rw [swSt_no, swLt_no, hb]
    exact ⟨rfl, rfl, rfl, rfl⟩
  | true =>
    have h := hb
    unfold swOk at h
    simp only [Bool.and_eq_true] at h
    rw [swSt_yes, swLt_yes]
    have h2 := sw_isDat h.2.1 h.2.2 h.1
    have hb2 : swOk k n (swS k p q s) (swL p q ds) p q = true := by unfold swOk; rw [h2, h.2.1, h.2.2]; rfl
    rw [hb2, swSt_yes, swLt_yes, swS_swS, swL_swL, swL_count, h2, h.1]
    exact ⟨rfl, rfl, rfl, rfl⟩
theorem swS_sz (k : Int) {p q s : ByteArray} (hp : p.size ≤ 100) (hq : q.size ≤ 100) (hs : s.size ≤ 9223372036854775807) : (swS k p q s).size ≤ 9223372036854775807 := by
  unfold swS
  repeat' split
  all_goals omega
theorem swL_wf {p q : ByteArray} (hp : p.size ≤ 100) (hq : q.size ≤ 100) : ∀ ds, Dat.wfL ds → Dat.wfL (swL p q ds) := by
  refine Dat.inductL fun ds ih => ?_
  induction ds with
  | nil => intro _; simp [swL, Dat.wfL]
  | cons d r ihr =>
    obtain ⟨k, n, s, es⟩ := d
    intro h
    have h' : (Dat.mk k n s es).wf ∧ Dat.wfL r := h
    rw [swL, swD_mk]
    exact ⟨⟨h'.1.1, h'.1.2.1, swS_sz k hp hq h'.1.2.2.1, ih k n s es (List.mem_cons_self ..) h'.1.2.2.2⟩, ihr (fun k n s es hm => ih k n s es (List.mem_cons_of_mem _ hm)) h'.2⟩
theorem sw_wf {k n : Int} {s p q : ByteArray} {ds : List Dat} (b : Bool) (hp : p.size ≤ 100) (hq : q.size ≤ 100) (h : (Dat.mk k n s ds).wf) : (Dat.mk k n (swSt b k p q s) (swLt b p q ds)).wf := by
  cases b with
  | false => rw [swSt_no, swLt_no]; exact h
  | true => rw [swSt_yes, swLt_yes]; exact ⟨h.1, h.2.1, swS_sz k hp hq h.2.2.1, swL_wf hp hq ds h.2.2.2⟩
set_option maxHeartbeats 8000000 in
theorem fnSwapTwice_walk (a : Option Addr) (c : Nat) (l : List Int) (w : World) (hin : (M.sl a c 1 5 (u8M l)).In w) (hu : ∀ n ∈ l, 0 ≤ n ∧ n ≤ 255) :
    Calls Try.prog 4 #[.slice a l.length c] w (Ret (.bool true) w) := by
  have hlc := U8s.len hin
  by_cases hbig : 1048576 < l.length
  · have HIN := Lib.hid hin; clear hin; have HU := Lib.hid hu; clear hu
    go_enter Try.func4, Try.ntmps4
    go_wp2_with fail
    go_ret
    exact ⟨rfl, by (repeat (first | with_reducible assumption | with_reducible exact Below.refl _ _ | with_reducible refine Below.drew ?_ | with_reducible refine belowDrewN ?_ _ | ((with_reducible refine Below.setCell ?_ ?_ _); rotate_left; focus (first | omega | (simp; done) | (simp; omega))) | ((with_reducible refine Below.alloc ?_ ?_ _); rotate_left; focus (first | omega | (simp; done) | (simp; omega)))))⟩
  · have HIN := Lib.hid hin; clear hin; have HU := Lib.hid hu; clear hu
    go_enter Try.func4, Try.ntmps4
    go_wp2_with fail
    refine (drawSwapSymbols_calls a c l _ HIN.out HU.out (by omega)).mono ?_
    rintro e w1 ⟨k, n, s, ds, a1, c1, ms1, x, y, rfl, hi1, hm1, hw1, hct1, hx, hy, hb1⟩
    have hz1 := hb1.size
    have hin1 := hm1.in_
    have htw := sw_twice k n s x y ds
    have HI1 := Lib.hid hi1; clear hi1; have HIN1 := Lib.hid hin1; clear hin1; have HW1 := Lib.hid hw1; clear hw1; have HCT1 := Lib.hid hct1; clear hct1; have HTW := Lib.hid htw; clear htw
    clear hm1
    go_wp2_with fail
    refine (iSwapSymbols_calls k n s x y ds a1 c1 ms1 _ HW1.out (by omega) (by omega) (by have := HCT1.out; omega) HI1.out (HIN1.out.below (by (repeat (first | with_reducible assumption | with_reducible exact Below.refl _ _ | with_reducible refine Below.drew ?_ | with_reducible refine belowDrewN ?_ _ | ((with_reducible refine Below.setCell ?_ ?_ _); rotate_left; focus (first | omega | (simp; done) | (simp; omega))) | ((with_reducible refine Below.alloc ?_ ?_ _); rotate_left; focus (first | omega | (simp; done) | (simp; omega)))))))).mono ?_
    rintro e w2 ⟨a2, c2, ms2, rfl, hi2, hm2, hb2⟩
    obtain ⟨hc2, hf2⟩ := bcell hb2; have hz2 := hb2.size; (try simp only [World.size_alloc, World.size_setCell, World.size_drew, sizeDrewN] at hz2 hc2 hf2)
    have hwf2 : (Dat.mk k n (swSt (swOk k n s ds x y) k x y s) (swLt (swOk k n s ds x y) x y ds)).wf := sw_wf _ hx hy HW1.out
    simp only [Dat.k_mk, Dat.n_mk, Dat.s_mk, Dat.ds_mk] at hi2 hm2 ⊢
    obtain ⟨s2, hs2⟩ : ∃ s2, s2 = swSt (swOk k n s ds x y) k x y s := ⟨_, rfl⟩
    obtain ⟨d2, hd2⟩ : ∃ d2, d2 = swLt (swOk k n s ds x y) x y ds := ⟨_, rfl⟩
    have htw2 := HTW.out
    rw [← hs2, ← hd2] at htw2
    rw [← hd2] at hi2
    rw [← hs2, ← hd2] at hwf2
    rw [← hs2]
    have hin2 := hm2.in_
    clear hm2
    have hsw : ∀ W, (M.sl a2 c2 4 31 ms2).In W → Calls Try.prog 15 #[.agg #[.int .i64 k, .int .i64 n, .string s2, .slice a2 ms2.length c2], .string x, .string y] W (RetDat 31 (.mk k n s ds) W) := fun W hW => by
      have h := iSwapSymbols_calls k n s2 x y d2 a2 c2 ms2 W hwf2 (by omega) (by omega) (by have := HCT1.out; rw [htw2.2.2.1]; omega) hi2 hW
      rw [htw2.1, htw2.2.1] at h
      exact h
    have heq : ∀ W a3 c3 ms3, Dat.IsL 31 ds ms3 → (M.sl a3 c3 4 31 ms3).In W → (M.sl a1 c1 4 31 ms1).In W → Calls Try.prog 16 #[.agg #[.int .i64 k, .int .i64 n, .string s, .slice a3 ms3.length c3], .agg #[.int .i64 k, .int .i64 n, .string s, .slice a1 ms1.length c1]] W (Ret (.bool true) W) := fun W a3 c3 ms3 h1 h2 h3 => by
      have h := iEqualData_calls ds k n s a3 c3 ms3 k n s a1 c1 ds ms1 W h1 h2 HI1.out h3
      rw [(eqDB_iff _ _).2 rfl] at h
      exact h
    have hci : ∀ W, (M.sl a2 c2 4 31 ms2).In W → Calls Try.prog 17 #[.agg #[.int .i64 k, .int .i64 n, .string s2, .slice a2 ms2.length c2]] W (Ret (.int .i64 ((1 + Dat.countL ds : Nat) : Int)) W) := fun W hW => by
      have h := iCountNodes_calls d2 k n s2 a2 c2 ms2 W (by have := HCT1.out; rw [htw2.2.2.1]; omega) hi2 hW
      rw [htw2.2.2.1] at h
      exact h
    have hcs : ∀ W, (M.sl a1 c1 4 31 ms1).In W → Calls Try.prog 18 #[.agg #[.int .i64 k, .int .i64 n, .string s, .slice a1 ms1.length c1]] W (Ret (.int .i64 ((1 + Dat.countL ds : Nat) : Int)) W) := fun W hW =>
      sCountNodes_calls ds k n s a1 c1 ms1 W (by have := HCT1.out; omega) HI1.out hW
    have hdi : ∀ W, (M.sl a2 c2 4 31 ms2).In W → Calls Try.prog 19 #[.agg #[.int .i64 k, .int .i64 n, .string s2, .slice a2 ms2.length c2]] W (Ret (.bool (isDatB k n s ds)) W) := fun W hW => by
      have h := iIsDatum_calls k n s2 d2 a2 c2 ms2 W hwf2 (by have := HCT1.out; rw [htw2.2.2.1]; omega) hi2 hW
      rw [htw2.2.2.2] at h
      exact h
    have hds : ∀ W, (M.sl a1 c1 4 31 ms1).In W → Calls Try.prog 20 #[.agg #[.int .i64 k, .int .i64 n, .string s, .slice a1 ms1.length c1]] W (Ret (.bool (isDatB k n s ds)) W) := fun W hW =>
      sIsDatum_calls k n s ds a1 c1 ms1 W HW1.out (by have := HCT1.out; omega) HI1.out hW
    have hp0_1 : w1.heap.size < w2.heap.size := by omega
    have hs0 : ((w2.alloc (.cells #[.int .i64 k, .int .i64 n, .string s2, .slice a2 ms2.length c2] 31)).cell? ⟨w1.heap.size, 0, none⟩ = some (.int .i64 k) ∧ (w2.alloc (.cells #[.int .i64 k, .int .i64 n, .string s2, .slice a2 ms2.length c2] 31)).cell? ⟨w1.heap.size, 1, none⟩ = some (.int .i64 n) ∧ (w2.alloc (.cells #[.int .i64 k, .int .i64 n, .string s2, .slice a2 ms2.length c2] 31)).cell? ⟨w1.heap.size, 2, none⟩ = some (.string s) ∧ (w2.alloc (.cells #[.int .i64 k, .int .i64 n, .string s2, .slice a2 ms2.length c2] 31)).cell? ⟨w1.heap.size, 3, none⟩ = some (.slice a1 ms1.length c1) ∧ (w2.alloc (.cells #[.int .i64 k, .int .i64 n, .string s2, .slice a2 ms2.length c2] 31)).cell? ⟨w2.heap.size, 0, none⟩ = some (.int .i64 k) ∧ (w2.alloc (.cells #[.int .i64 k, .int .i64 n, .string s2, .slice a2 ms2.length c2] 31)).cell? ⟨w2.heap.size, 1, none⟩ = some (.int .i64 n) ∧ (w2.alloc (.cells #[.int .i64 k, .int .i64 n, .string s2, .slice a2 ms2.length c2] 31)).cell? ⟨w2.heap.size, 2, none⟩ = some (.string s2) ∧ (w2.alloc (.cells #[.int .i64 k, .int .i64 n, .string s2, .slice a2 ms2.length c2] 31)).cell? ⟨w2.heap.size, 3, none⟩ = some (.slice a2 ms2.length c2)) := by
      refine ⟨?_, ?_, ?_, ?_, ?_, ?_, ?_, ?_⟩ <;> first | (simp (disch := omega) [go_sem, hc2]; done) | (simp (disch := omega) [go_sem, hc2]; rfl)
    generalize isDatB k n s ds = bd at *
    clear hc2 hf2
    have HSW := Lib.hid hsw; clear hsw; have HEQ := Lib.hid heq; clear heq; have HCI := Lib.hid hci; clear hci; have HCS := Lib.hid hcs; clear hcs; have HDI := Lib.hid hdi; clear hdi; have HDS := Lib.hid hds; clear hds; have HI2 := Lib.hid hi2; clear hi2; have HIN2 := Lib.hid hin2; clear hin2; have HWF2 := Lib.hid hwf2; clear hwf2; have HTW2 := Lib.hid htw2; clear htw2; have HS2 := Lib.hid hs2; clear hs2; have HD2 := Lib.hid hd2; clear hd2
    go_wp2_with fail
    go_region_held3 (fun w' => (w'.cell? ⟨w1.heap.size, 0, none⟩ = some (.int .i64 k) ∧ w'.cell? ⟨w1.heap.size, 1, none⟩ = some (.int .i64 n) ∧ w'.cell? ⟨w1.heap.size, 2, none⟩ = some (.string s) ∧ w'.cell? ⟨w1.heap.size, 3, none⟩ = some (.slice a1 ms1.length c1) ∧ w'.cell? ⟨w2.heap.size, 0, none⟩ = some (.int .i64 k) ∧ w'.cell? ⟨w2.heap.size, 1, none⟩ = some (.int .i64 n) ∧ w'.cell? ⟨w2.heap.size, 2, none⟩ = some (.string s2) ∧ w'.cell? ⟨w2.heap.size, 3, none⟩ = some (.slice a2 ms2.length c2)))
      (first | (with_reducible exact hs0) | (simp only [World.cell?_drew]; with_reducible exact hs0) | (with_reducible exact hs3) | (with_reducible exact hs4) | (with_reducible exact hs5) | (with_reducible exact hs6) | (with_reducible exact hs7) | (with_reducible exact hs8) | (simp only [World.cell?_drew]; first | (with_reducible exact hs3) | (with_reducible exact hs4) | (with_reducible exact hs5) | (with_reducible exact hs6) | (with_reducible exact hs7) | (with_reducible exact hs8)))
      (first
        | (go_at_call 15; (with_reducible refine (HSW.out _ (HIN2.out.below (by (repeat (first | with_reducible assumption | with_reducible exact Below.refl _ _ | with_reducible refine Below.drew ?_ | with_reducible refine belowDrewN ?_ _ | ((with_reducible refine Below.setCell ?_ ?_ _); rotate_left; focus (first | omega | (simp; done) | (simp; omega))) | ((with_reducible refine Below.alloc ?_ ?_ _); rotate_left; focus (first | omega | (simp; done) | (simp; omega))) | ((with_reducible refine Below.trans ?_ (Below.mono hb2 ?_)); rotate_left; focus (first | omega | (simp; done) | (simp; omega))) | ((with_reducible refine Below.trans ?_ (Below.mono hb3 ?_)); rotate_left; focus (first | omega | (simp; done) | (simp; omega))) | ((with_reducible refine Below.trans ?_ (Below.mono hb4 ?_)); rotate_left; focus (first | omega | (simp; done) | (simp; omega))) | ((with_reducible refine Below.trans ?_ (Below.mono hb5 ?_)); rotate_left; focus (first | omega | (simp; done) | (simp; omega))) | ((with_reducible refine Below.trans ?_ (Below.mono hb6 ?_)); rotate_left; focus (first | omega | (simp; done) | (simp; omega))) | ((with_reducible refine Below.trans ?_ (Below.mono hb7 ?_)); rotate_left; focus (first | omega | (simp; done) | (simp; omega))) | ((with_reducible refine Below.trans ?_ (Below.mono hb8 ?_)); rotate_left; focus (first | omega | (simp; done) | (simp; omega)))))))).mono ?_); rintro e w3 ⟨a3, c3, ms3, rfl, hi3, hm3, hb3⟩; obtain ⟨hc3, hf3⟩ := bcell hb3; have hz3 := hb3.size; (try simp only [World.size_alloc, World.size_setCell, World.size_drew, sizeDrewN] at hz3 hc3 hf3); have hp3_1 : w1.heap.size < w3.heap.size := (by omega); have hp3_2 : w2.heap.size < w3.heap.size := (by omega); have hs3 : (w3.cell? ⟨w1.heap.size, 0, none⟩ = some (.int .i64 k) ∧ w3.cell? ⟨w1.heap.size, 1, none⟩ = some (.int .i64 n) ∧ w3.cell? ⟨w1.heap.size, 2, none⟩ = some (.string s) ∧ w3.cell? ⟨w1.heap.size, 3, none⟩ = some (.slice a1 ms1.length c1) ∧ w3.cell? ⟨w2.heap.size, 0, none⟩ = some (.int .i64 k) ∧ w3.cell? ⟨w2.heap.size, 1, none⟩ = some (.int .i64 n) ∧ w3.cell? ⟨w2.heap.size, 2, none⟩ = some (.string s2) ∧ w3.cell? ⟨w2.heap.size, 3, none⟩ = some (.slice a2 ms2.length c2)) := (by first | (simp (disch := omega) only [hc3, hs8, and_self, go_sem, World.cell?_drew]; done) | (simp (disch := omega) only [hc3, hs7, and_self, go_sem, World.cell?_drew]; done) | (simp (disch := omega) only [hc3, hs6, and_self, go_sem, World.cell?_drew]; done) | (simp (disch := omega) only [hc3, hs5, and_self, go_sem, World.cell?_drew]; done) | (simp (disch := omega) only [hc3, hs4, and_self, go_sem, World.cell?_drew]; done) | (simp (disch := omega) only [hc3, hs0, and_self, go_sem, World.cell?_drew]; done)); have hin3 := hm3.in_; (try simp only [Dat.k_mk, Dat.n_mk, Dat.s_mk, Dat.ds_mk] at hi3 hin3); (try simp only [Dat.k_mk, Dat.n_mk, Dat.s_mk, Dat.ds_mk]))
        | (go_at_call 16; (with_reducible refine (HEQ.out _ a3 c3 ms3 hi3 (hin3.below (by (repeat (first | with_reducible assumption | with_reducible exact Below.refl _ _ | with_reducible refine Below.drew ?_ | with_reducible refine belowDrewN ?_ _ | ((with_reducible refine Below.setCell ?_ ?_ _); rotate_left; focus (first | omega | (simp; done) | (simp; omega))) | ((with_reducible refine Below.alloc ?_ ?_ _); rotate_left; focus (first | omega | (simp; done) | (simp; omega))) | ((with_reducible refine Below.trans ?_ (Below.mono hb2 ?_)); rotate_left; focus (first | omega | (simp; done) | (simp; omega))) | ((with_reducible refine Below.trans ?_ (Below.mono hb3 ?_)); rotate_left; focus (first | omega | (simp; done) | (simp; omega))) | ((with_reducible refine Below.trans ?_ (Below.mono hb4 ?_)); rotate_left; focus (first | omega | (simp; done) | (simp; omega))) | ((with_reducible refine Below.trans ?_ (Below.mono hb5 ?_)); rotate_left; focus (first | omega | (simp; done) | (simp; omega))) | ((with_reducible refine Below.trans ?_ (Below.mono hb6 ?_)); rotate_left; focus (first | omega | (simp; done) | (simp; omega))) | ((with_reducible refine Below.trans ?_ (Below.mono hb7 ?_)); rotate_left; focus (first | omega | (simp; done) | (simp; omega))) | ((with_reducible refine Below.trans ?_ (Below.mono hb8 ?_)); rotate_left; focus (first | omega | (simp; done) | (simp; omega))))))) (HIN1.out.below (by (repeat (first | with_reducible assumption | with_reducible exact Below.refl _ _ | with_reducible refine Below.drew ?_ | with_reducible refine belowDrewN ?_ _ | ((with_reducible refine Below.setCell ?_ ?_ _); rotate_left; focus (first | omega | (simp; done) | (simp; omega))) | ((with_reducible refine Below.alloc ?_ ?_ _); rotate_left; focus (first | omega | (simp; done) | (simp; omega))) | ((with_reducible refine Below.trans ?_ (Below.mono hb2 ?_)); rotate_left; focus (first | omega | (simp; done) | (simp; omega))) | ((with_reducible refine Below.trans ?_ (Below.mono hb3 ?_)); rotate_left; focus (first | omega | (simp; done) | (simp; omega))) | ((with_reducible refine Below.trans ?_ (Below.mono hb4 ?_)); rotate_left; focus (first | omega | (simp; done) | (simp; omega))) | ((with_reducible refine Below.trans ?_ (Below.mono hb5 ?_)); rotate_left; focus (first | omega | (simp; done) | (simp; omega))) | ((with_reducible refine Below.trans ?_ (Below.mono hb6 ?_)); rotate_left; focus (first | omega | (simp; done) | (simp; omega))) | ((with_reducible refine Below.trans ?_ (Below.mono hb7 ?_)); rotate_left; focus (first | omega | (simp; done) | (simp; omega))) | ((with_reducible refine Below.trans ?_ (Below.mono hb8 ?_)); rotate_left; focus (first | omega | (simp; done) | (simp; omega)))))))).mono ?_); rintro e w4 ⟨rfl, hb4⟩; obtain ⟨hc4, hf4⟩ := bcell hb4; have hz4 := hb4.size; (try simp only [World.size_alloc, World.size_setCell, World.size_drew, sizeDrewN] at hz4 hc4 hf4); have hp4_1 : w1.heap.size < w4.heap.size := (by omega); have hp4_2 : w2.heap.size < w4.heap.size := (by omega); have hs4 : (w4.cell? ⟨w1.heap.size, 0, none⟩ = some (.int .i64 k) ∧ w4.cell? ⟨w1.heap.size, 1, none⟩ = some (.int .i64 n) ∧ w4.cell? ⟨w1.heap.size, 2, none⟩ = some (.string s) ∧ w4.cell? ⟨w1.heap.size, 3, none⟩ = some (.slice a1 ms1.length c1) ∧ w4.cell? ⟨w2.heap.size, 0, none⟩ = some (.int .i64 k) ∧ w4.cell? ⟨w2.heap.size, 1, none⟩ = some (.int .i64 n) ∧ w4.cell? ⟨w2.heap.size, 2, none⟩ = some (.string s2) ∧ w4.cell? ⟨w2.heap.size, 3, none⟩ = some (.slice a2 ms2.length c2)) := (by first | (simp (disch := omega) only [hc4, hs8, and_self, go_sem, World.cell?_drew]; done) | (simp (disch := omega) only [hc4, hs7, and_self, go_sem, World.cell?_drew]; done) | (simp (disch := omega) only [hc4, hs6, and_self, go_sem, World.cell?_drew]; done) | (simp (disch := omega) only [hc4, hs5, and_self, go_sem, World.cell?_drew]; done) | (simp (disch := omega) only [hc4, hs3, and_self, go_sem, World.cell?_drew]; done) | (simp (disch := omega) only [hc4, hs0, and_self, go_sem, World.cell?_drew]; done)))
        | (go_at_call 17; (with_reducible refine (HCI.out _ (HIN2.out.below (by (repeat (first | with_reducible assumption | with_reducible exact Below.refl _ _ | with_reducible refine Below.drew ?_ | with_reducible refine belowDrewN ?_ _ | ((with_reducible refine Below.setCell ?_ ?_ _); rotate_left; focus (first | omega | (simp; done) | (simp; omega))) | ((with_reducible refine Below.alloc ?_ ?_ _); rotate_left; focus (first | omega | (simp; done) | (simp; omega))) | ((with_reducible refine Below.trans ?_ (Below.mono hb2 ?_)); rotate_left; focus (first | omega | (simp; done) | (simp; omega))) | ((with_reducible refine Below.trans ?_ (Below.mono hb3 ?_)); rotate_left; focus (first | omega | (simp; done) | (simp; omega))) | ((with_reducible refine Below.trans ?_ (Below.mono hb4 ?_)); rotate_left; focus (first | omega | (simp; done) | (simp; omega))) | ((with_reducible refine Below.trans ?_ (Below.mono hb5 ?_)); rotate_left; focus (first | omega | (simp; done) | (simp; omega))) | ((with_reducible refine Below.trans ?_ (Below.mono hb6 ?_)); rotate_left; focus (first | omega | (simp; done) | (simp; omega))) | ((with_reducible refine Below.trans ?_ (Below.mono hb7 ?_)); rotate_left; focus (first | omega | (simp; done) | (simp; omega))) | ((with_reducible refine Below.trans ?_ (Below.mono hb8 ?_)); rotate_left; focus (first | omega | (simp; done) | (simp; omega)))))))).mono ?_); rintro e w5 ⟨rfl, hb5⟩; obtain ⟨hc5, hf5⟩ := bcell hb5; have hz5 := hb5.size; (try simp only [World.size_alloc, World.size_setCell, World.size_drew, sizeDrewN] at hz5 hc5 hf5); have hp5_1 : w1.heap.size < w5.heap.size := (by omega); have hp5_2 : w2.heap.size < w5.heap.size := (by omega); have hs5 : (w5.cell? ⟨w1.heap.size, 0, none⟩ = some (.int .i64 k) ∧ w5.cell? ⟨w1.heap.size, 1, none⟩ = some (.int .i64 n) ∧ w5.cell? ⟨w1.heap.size, 2, none⟩ = some (.string s) ∧ w5.cell? ⟨w1.heap.size, 3, none⟩ = some (.slice a1 ms1.length c1) ∧ w5.cell? ⟨w2.heap.size, 0, none⟩ = some (.int .i64 k) ∧ w5.cell? ⟨w2.heap.size, 1, none⟩ = some (.int .i64 n) ∧ w5.cell? ⟨w2.heap.size, 2, none⟩ = some (.string s2) ∧ w5.cell? ⟨w2.heap.size, 3, none⟩ = some (.slice a2 ms2.length c2)) := (by first | (simp (disch := omega) only [hc5, hs8, and_self, go_sem, World.cell?_drew]; done) | (simp (disch := omega) only [hc5, hs7, and_self, go_sem, World.cell?_drew]; done) | (simp (disch := omega) only [hc5, hs6, and_self, go_sem, World.cell?_drew]; done) | (simp (disch := omega) only [hc5, hs4, and_self, go_sem, World.cell?_drew]; done) | (simp (disch := omega) only [hc5, hs3, and_self, go_sem, World.cell?_drew]; done) | (simp (disch := omega) only [hc5, hs0, and_self, go_sem, World.cell?_drew]; done)))
        | (go_at_call 18; (with_reducible refine (HCS.out _ (HIN1.out.below (by (repeat (first | with_reducible assumption | with_reducible exact Below.refl _ _ | with_reducible refine Below.drew ?_ | with_reducible refine belowDrewN ?_ _ | ((with_reducible refine Below.setCell ?_ ?_ _); rotate_left; focus (first | omega | (simp; done) | (simp; omega))) | ((with_reducible refine Below.alloc ?_ ?_ _); rotate_left; focus (first | omega | (simp; done) | (simp; omega))) | ((with_reducible refine Below.trans ?_ (Below.mono hb2 ?_)); rotate_left; focus (first | omega | (simp; done) | (simp; omega))) | ((with_reducible refine Below.trans ?_ (Below.mono hb3 ?_)); rotate_left; focus (first | omega | (simp; done) | (simp; omega))) | ((with_reducible refine Below.trans ?_ (Below.mono hb4 ?_)); rotate_left; focus (first | omega | (simp; done) | (simp; omega))) | ((with_reducible refine Below.trans ?_ (Below.mono hb5 ?_)); rotate_left; focus (first | omega | (simp; done) | (simp; omega))) | ((with_reducible refine Below.trans ?_ (Below.mono hb6 ?_)); rotate_left; focus (first | omega | (simp; done) | (simp; omega))) | ((with_reducible refine Below.trans ?_ (Below.mono hb7 ?_)); rotate_left; focus (first | omega | (simp; done) | (simp; omega))) | ((with_reducible refine Below.trans ?_ (Below.mono hb8 ?_)); rotate_left; focus (first | omega | (simp; done) | (simp; omega)))))))).mono ?_); rintro e w6 ⟨rfl, hb6⟩; obtain ⟨hc6, hf6⟩ := bcell hb6; have hz6 := hb6.size; (try simp only [World.size_alloc, World.size_setCell, World.size_drew, sizeDrewN] at hz6 hc6 hf6); have hp6_1 : w1.heap.size < w6.heap.size := (by omega); have hp6_2 : w2.heap.size < w6.heap.size := (by omega); have hs6 : (w6.cell? ⟨w1.heap.size, 0, none⟩ = some (.int .i64 k) ∧ w6.cell? ⟨w1.heap.size, 1, none⟩ = some (.int .i64 n) ∧ w6.cell? ⟨w1.heap.size, 2, none⟩ = some (.string s) ∧ w6.cell? ⟨w1.heap.size, 3, none⟩ = some (.slice a1 ms1.length c1) ∧ w6.cell? ⟨w2.heap.size, 0, none⟩ = some (.int .i64 k) ∧ w6.cell? ⟨w2.heap.size, 1, none⟩ = some (.int .i64 n) ∧ w6.cell? ⟨w2.heap.size, 2, none⟩ = some (.string s2) ∧ w6.cell? ⟨w2.heap.size, 3, none⟩ = some (.slice a2 ms2.length c2)) := (by first | (simp (disch := omega) only [hc6, hs8, and_self, go_sem, World.cell?_drew]; done) | (simp (disch := omega) only [hc6, hs7, and_self, go_sem, World.cell?_drew]; done) | (simp (disch := omega) only [hc6, hs5, and_self, go_sem, World.cell?_drew]; done) | (simp (disch := omega) only [hc6, hs4, and_self, go_sem, World.cell?_drew]; done) | (simp (disch := omega) only [hc6, hs3, and_self, go_sem, World.cell?_drew]; done) | (simp (disch := omega) only [hc6, hs0, and_self, go_sem, World.cell?_drew]; done)))
        | (go_at_call 19; (with_reducible refine (HDI.out _ (HIN2.out.below (by (repeat (first | with_reducible assumption | with_reducible exact Below.refl _ _ | with_reducible refine Below.drew ?_ | with_reducible refine belowDrewN ?_ _ | ((with_reducible refine Below.setCell ?_ ?_ _); rotate_left; focus (first | omega | (simp; done) | (simp; omega))) | ((with_reducible refine Below.alloc ?_ ?_ _); rotate_left; focus (first | omega | (simp; done) | (simp; omega))) | ((with_reducible refine Below.trans ?_ (Below.mono hb2 ?_)); rotate_left; focus (first | omega | (simp; done) | (simp; omega))) | ((with_reducible refine Below.trans ?_ (Below.mono hb3 ?_)); rotate_left; focus (first | omega | (simp; done) | (simp; omega))) | ((with_reducible refine Below.trans ?_ (Below.mono hb4 ?_)); rotate_left; focus (first | omega | (simp; done) | (simp; omega))) | ((with_reducible refine Below.trans ?_ (Below.mono hb5 ?_)); rotate_left; focus (first | omega | (simp; done) | (simp; omega))) | ((with_reducible refine Below.trans ?_ (Below.mono hb6 ?_)); rotate_left; focus (first | omega | (simp; done) | (simp; omega))) | ((with_reducible refine Below.trans ?_ (Below.mono hb7 ?_)); rotate_left; focus (first | omega | (simp; done) | (simp; omega))) | ((with_reducible refine Below.trans ?_ (Below.mono hb8 ?_)); rotate_left; focus (first | omega | (simp; done) | (simp; omega)))))))).mono ?_); rintro e w7 ⟨rfl, hb7⟩; obtain ⟨hc7, hf7⟩ := bcell hb7; have hz7 := hb7.size; (try simp only [World.size_alloc, World.size_setCell, World.size_drew, sizeDrewN] at hz7 hc7 hf7); have hp7_1 : w1.heap.size < w7.heap.size := (by omega); have hp7_2 : w2.heap.size < w7.heap.size := (by omega); have hs7 : (w7.cell? ⟨w1.heap.size, 0, none⟩ = some (.int .i64 k) ∧ w7.cell? ⟨w1.heap.size, 1, none⟩ = some (.int .i64 n) ∧ w7.cell? ⟨w1.heap.size, 2, none⟩ = some (.string s) ∧ w7.cell? ⟨w1.heap.size, 3, none⟩ = some (.slice a1 ms1.length c1) ∧ w7.cell? ⟨w2.heap.size, 0, none⟩ = some (.int .i64 k) ∧ w7.cell? ⟨w2.heap.size, 1, none⟩ = some (.int .i64 n) ∧ w7.cell? ⟨w2.heap.size, 2, none⟩ = some (.string s2) ∧ w7.cell? ⟨w2.heap.size, 3, none⟩ = some (.slice a2 ms2.length c2)) := (by first | (simp (disch := omega) only [hc7, hs8, and_self, go_sem, World.cell?_drew]; done) | (simp (disch := omega) only [hc7, hs6, and_self, go_sem, World.cell?_drew]; done) | (simp (disch := omega) only [hc7, hs5, and_self, go_sem, World.cell?_drew]; done) | (simp (disch := omega) only [hc7, hs4, and_self, go_sem, World.cell?_drew]; done) | (simp (disch := omega) only [hc7, hs3, and_self, go_sem, World.cell?_drew]; done) | (simp (disch := omega) only [hc7, hs0, and_self, go_sem, World.cell?_drew]; done)))
        | (go_at_call 20; (with_reducible refine (HDS.out _ (HIN1.out.below (by (repeat (first | with_reducible assumption | with_reducible exact Below.refl _ _ | with_reducible refine Below.drew ?_ | with_reducible refine belowDrewN ?_ _ | ((with_reducible refine Below.setCell ?_ ?_ _); rotate_left; focus (first | omega | (simp; done) | (simp; omega))) | ((with_reducible refine Below.alloc ?_ ?_ _); rotate_left; focus (first | omega | (simp; done) | (simp; omega))) | ((with_reducible refine Below.trans ?_ (Below.mono hb2 ?_)); rotate_left; focus (first | omega | (simp; done) | (simp; omega))) | ((with_reducible refine Below.trans ?_ (Below.mono hb3 ?_)); rotate_left; focus (first | omega | (simp; done) | (simp; omega))) | ((with_reducible refine Below.trans ?_ (Below.mono hb4 ?_)); rotate_left; focus (first | omega | (simp; done) | (simp; omega))) | ((with_reducible refine Below.trans ?_ (Below.mono hb5 ?_)); rotate_left; focus (first | omega | (simp; done) | (simp; omega))) | ((with_reducible refine Below.trans ?_ (Below.mono hb6 ?_)); rotate_left; focus (first | omega | (simp; done) | (simp; omega))) | ((with_reducible refine Below.trans ?_ (Below.mono hb7 ?_)); rotate_left; focus (first | omega | (simp; done) | (simp; omega))) | ((with_reducible refine Below.trans ?_ (Below.mono hb8 ?_)); rotate_left; focus (first | omega | (simp; done) | (simp; omega)))))))).mono ?_); rintro e w8 ⟨rfl, hb8⟩; obtain ⟨hc8, hf8⟩ := bcell hb8; have hz8 := hb8.size; (try simp only [World.size_alloc, World.size_setCell, World.size_drew, sizeDrewN] at hz8 hc8 hf8); have hp8_1 : w1.heap.size < w8.heap.size := (by omega); have hp8_2 : w2.heap.size < w8.heap.size := (by omega); have hs8 : (w8.cell? ⟨w1.heap.size, 0, none⟩ = some (.int .i64 k) ∧ w8.cell? ⟨w1.heap.size, 1, none⟩ = some (.int .i64 n) ∧ w8.cell? ⟨w1.heap.size, 2, none⟩ = some (.string s) ∧ w8.cell? ⟨w1.heap.size, 3, none⟩ = some (.slice a1 ms1.length c1) ∧ w8.cell? ⟨w2.heap.size, 0, none⟩ = some (.int .i64 k) ∧ w8.cell? ⟨w2.heap.size, 1, none⟩ = some (.int .i64 n) ∧ w8.cell? ⟨w2.heap.size, 2, none⟩ = some (.string s2) ∧ w8.cell? ⟨w2.heap.size, 3, none⟩ = some (.slice a2 ms2.length c2)) := (by first | (simp (disch := omega) only [hc8, hs7, and_self, go_sem, World.cell?_drew]; done) | (simp (disch := omega) only [hc8, hs6, and_self, go_sem, World.cell?_drew]; done) | (simp (disch := omega) only [hc8, hs5, and_self, go_sem, World.cell?_drew]; done) | (simp (disch := omega) only [hc8, hs4, and_self, go_sem, World.cell?_drew]; done) | (simp (disch := omega) only [hc8, hs3, and_self, go_sem, World.cell?_drew]; done) | (simp (disch := omega) only [hc8, hs0, and_self, go_sem, World.cell?_drew]; done))))
    all_goals
      go_wp2_with fail
      go_ret
      exact ⟨rfl, by (repeat (first | with_reducible assumption | with_reducible exact Below.refl _ _ | with_reducible refine Below.drew ?_ | with_reducible refine belowDrewN ?_ _ | ((with_reducible refine Below.setCell ?_ ?_ _); rotate_left; focus (first | omega | (simp; done) | (simp; omega))) | ((with_reducible refine Below.alloc ?_ ?_ _); rotate_left; focus (first | omega | (simp; done) | (simp; omega))) | ((with_reducible refine Below.trans ?_ (Below.mono hb1 ?_)); rotate_left; focus (first | omega | (simp; done) | (simp; omega))) | ((with_reducible refine Below.trans ?_ (Below.mono hb2 ?_)); rotate_left; focus (first | omega | (simp; done) | (simp; omega))) | ((with_reducible refine Below.trans ?_ (Below.mono hb3 ?_)); rotate_left; focus (first | omega | (simp; done) | (simp; omega))) | ((with_reducible refine Below.trans ?_ (Below.mono hb4 ?_)); rotate_left; focus (first | omega | (simp; done) | (simp; omega))) | ((with_reducible refine Below.trans ?_ (Below.mono hb5 ?_)); rotate_left; focus (first | omega | (simp; done) | (simp; omega))) | ((with_reducible refine Below.trans ?_ (Below.mono hb6 ?_)); rotate_left; focus (first | omega | (simp; done) | (simp; omega))) | ((with_reducible refine Below.trans ?_ (Below.mono hb7 ?_)); rotate_left; focus (first | omega | (simp; done) | (simp; omega))) | ((with_reducible refine Below.trans ?_ (Below.mono hb8 ?_)); rotate_left; focus (first | omega | (simp; done) | (simp; omega)))))⟩

set_option maxHeartbeats 1000000 in
set_option maxRecDepth 100000 in
theorem fnSwapTwice_lifted (os : Os) (started : os.Started) (H : Type) (enc : TypeId × Value → H) :
    ReturnsInHanded {} Try.checked os 4 .any (Rows.fnSwapTwiceSpec.pre6 enc Try.prog Try.f4 Rows.fnSwapTwiceRow.domain false) (Rows.fnSwapTwiceSpec.post enc Try.prog Try.f4 false true false false) := by
  refine returnsInHanded_of_change (C := Try.checked) own_ started (by kernel_rfl) Try.func4
    (ChangeSpec.witness6 (enc := enc) (C := Try.checked) false ⟨#[], #[.slice none 0 0], []⟩ 8 (by kernel_rfl) (by kernel_rfl) (by kernel_rfl) (by kernel_rfl)) ?_
  intro W base args ds gs before hval0 hW hcnd _
  have hval : ∀ (j : Nat) t v, Try.f4.params[j]? = some t → args[j]? = some v → Value.okWide Try.prog W .any base t v := hval0
  have hW' := hW
  obtain ⟨p, q, hA0, hV, rfl, hfz, hnd⟩ := hW
  have hA : DataW.TrodAll enc Try.prog W 0 (fun _ => true) true Try.f4.params.toList args.toList ds p := hA0
  rw [Try.params4] at hA hval
  obtain ⟨v0, vs0, d0, ds0_, p0, q0, hargs, rfl, rfl, h0, r0⟩ := trodAll_cons hA
  obtain ⟨rfl, rfl, rfl⟩ := trodAll_nil r0
  obtain rfl : args = #[v0] := by cases args; simp_all
  obtain ⟨rfl, rfl⟩ := trodVars_none hV
  have k0_ := h0
  have lt0 : ∀ x ∈ p0, x.block < W.heap.size := by obtain ⟨m, hm⟩ := k0_; exact DataW.trod_lt m _ _ _ hm
  obtain ⟨a0, c0, l0, rfl, hin0, wl0⟩ := arg_bytes (hval 0 28 v0 rfl rfl) h0
  clear hA0 hval0
  refine (fnSwapTwice_walk a0 c0 l0 W hin0 wl0).mono fun e W' ⟨he, bel⟩ => ?_
  subst he
  exact ⟨_, rfl, _, _, _, [], _, [], hW', trodAll_mk1 (shut_bool Try.underlying4 _), (trodAll_cons_mk (Below.trod laidOut_ (by kernel_rfl) (of_decide_eq_true (by kernel_rfl)) k0_ bel lt0) trodAll_mk0), rfl, bel.frame _, fun h => by cases h⟩

set_option maxHeartbeats 2000000 in
theorem fnSwapTwice_facts : joinedFacts Try.prog 4 Try.f4 Rows.fnSwapTwiceSpec Rows.fnSwapTwiceRow = true := by
  unfold joinedFacts
  repeat' with_reducible refine and_mk ?_ ?_
  all_goals first | with_reducible exact mayEnter_ | (rw [lifts_]; kernel_rfl) | (rw [make_]; kernel_rfl) | (as_aux_lemma => kernel_rfl)

set_option maxHeartbeats 2000000 in
/-- FnSwapTwice: for every input the call returns true, and each argument reads afterwards as before. No condition. -/
theorem fnSwapTwice_holds : Rows.FnSwapTwiceSaid :=
  OpenClaim.holds_of_wide 4 Try.f4 rfl rfl rfl rfl rfl rfl rfl ⟨rfl, rfl, rfl, rfl, rfl⟩ rfl rfl rfl rfl rfl (by as_aux_lemma => kernel_rfl) Try.func4 fnSwapTwice_facts
    (of_decide_eq_true (by kernel_rfl)) (by unfold Func.isWrapper; first | (rw [if_pos (by decide +kernel)]; kernel_rfl) | (rw [if_neg (by decide +kernel)]; exact ⟨rfl, rfl⟩))
    (fun os started H enc _ => fnSwapTwice_lifted os started H enc)
#print axioms fnSwapTwice_holds

end Go.Proofs.Ytoflfamfhpijcaa
