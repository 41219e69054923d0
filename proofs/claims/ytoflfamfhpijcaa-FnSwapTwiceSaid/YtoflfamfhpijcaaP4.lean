/-
  Walks: SwapSymbols. No condition.
-/
import Derived.Test.YtoflfamfhpijcaaP3
set_option linter.unusedVariables false
set_option linter.unusedSimpArgs false
set_option maxRecDepth 100000
namespace Go.Proofs.Ytoflfamfhpijcaa
open Go.RowKit

noncomputable def swOk (k n : Int) (s : ByteArray) (ds : List Dat) (p q : ByteArray) : Bool := isDatB k n s ds && (isSymB p && isSymB q)
noncomputable def swSt (b : Bool) (k : Int) (p q s : ByteArray) : ByteArray := if b = true then swS k p q s else s
noncomputable def swLt (b : Bool) (p q : ByteArray) (ds : List Dat) : List Dat := if b = true then swL p q ds else ds
theorem swSt_no (k : Int) (p q s : ByteArray) : swSt false k p q s = s := rfl
theorem swLt_no (p q : ByteArray) (ds : List Dat) : swLt false p q ds = ds := rfl
theorem swSt_yes (k : Int) (p q s : ByteArray) : swSt true k p q s = swS k p q s := rfl
theorem swLt_yes (p q : ByteArray) (ds : List Dat) : swLt true p q ds = swL p q ds := rfl
set_option maxHeartbeats 1000000 in
theorem iSwapSymbols_calls (k n : Int) (s p q : ByteArray) (ds : List Dat) (a : Option Addr) (cap : Nat) (ms : List M) (w : World) (hwf : (Dat.mk k n s ds).wf) (hsp : p.size ≤ 9223372036854775807) (hsq : q.size ≤ 9223372036854775807) (hB : Dat.countL ds ≤ 900000000) (hi : Dat.IsL 31 ds ms) (hin : (M.sl a cap 4 31 ms).In w) :
    Calls Try.prog 15 #[.agg #[.int .i64 k, .int .i64 n, .string s, .slice a ms.length cap], .string p, .string q] w (RetDat 31 (.mk k n (swSt (swOk k n s ds p q) k p q s) (swLt (swOk k n s ds p q) p q ds)) w) := by
  have hcap := hin.len
  have HI := Lib.hid hi; clear hi; have HIN := Lib.hid hin; clear hin; have HWF := Lib.hid hwf; clear hwf
  go_enter Try.func15, Try.ntmps15
  go_wp2_with fail
  refine (iIsDatum_calls k n s ds a cap ms _ HWF.out (by omega) HI.out (HIN.out.below (by (repeat (first | with_reducible assumption | with_reducible exact Below.refl _ _ | with_reducible refine Below.drew ?_ | with_reducible refine belowDrewN ?_ _ | ((with_reducible refine Below.setCell ?_ ?_ _); rotate_left; focus (first | omega | (simp; done) | (simp; omega))) | ((with_reducible refine Below.alloc ?_ ?_ _); rotate_left; focus (first | omega | (simp; done) | (simp; omega)))))))).mono ?_
  rintro e w1 ⟨rfl, hb1⟩
  obtain ⟨hc1, hf1⟩ := bcell hb1; have hz1 := hb1.size; (try simp only [World.size_alloc, World.size_setCell, World.size_drew, sizeDrewN] at hz1 hc1 hf1)
  have q0 : w1.cell? ⟨w.heap.size, 0, none⟩ = some (.int .i64 k) := by rw [hc1 _ _ (by omega)]; simp [go_sem]
  have q1 : w1.cell? ⟨w.heap.size, 1, none⟩ = some (.int .i64 n) := by rw [hc1 _ _ (by omega)]; simp [go_sem]
  have q2 : w1.cell? ⟨w.heap.size, 2, none⟩ = some (.string s) := by rw [hc1 _ _ (by omega)]; simp [go_sem]
  have q3 : w1.cell? ⟨w.heap.size, 3, none⟩ = some (.slice a ms.length cap) := by rw [hc1 _ _ (by omega)]; simp [go_sem]
  have hr1 : (w1.cell? ⟨w.heap.size + 1, 0, none⟩ = some (.int .i64 0) ∧ w1.cell? ⟨w.heap.size + 1, 1, none⟩ = some (.int .i64 0) ∧ w1.cell? ⟨w.heap.size + 1, 2, none⟩ = some (.string ⟨#[]⟩) ∧ w1.cell? ⟨w.heap.size + 1, 3, none⟩ = some (.slice none 0 0) ∧ w1.frozen? ⟨w.heap.size + 1, 0, none⟩ = false ∧ w1.frozen? ⟨w.heap.size + 1, 1, none⟩ = false ∧ w1.frozen? ⟨w.heap.size + 1, 2, none⟩ = false ∧ w1.frozen? ⟨w.heap.size + 1, 3, none⟩ = false) := by simp (disch := omega) [hc1, hf1, go_sem]; exact ⟨rfl, rfl, rfl, rfl⟩
  obtain ⟨r0, r1, r2, r3, g0, g1, g2, g3⟩ := hr1
  have p1 : w.heap.size + 1 < w1.heap.size := by omega
  cases hv : isDatB k n s ds with
  | false =>
    have hno : swOk k n s ds p q = false := by unfold swOk; rw [hv]; rfl
    have HV := Lib.hid hv; clear hv; have HNO := Lib.hid hno; clear hno
    go_wp2_with fail
    refine (copyDatum_of ds (copyData_calls ds) k n s a cap ms _ (by omega) HI.out (HIN.out.below (by (repeat (first | with_reducible assumption | with_reducible exact Below.refl _ _ | with_reducible refine Below.drew ?_ | with_reducible refine belowDrewN ?_ _ | ((with_reducible refine Below.setCell ?_ ?_ _); rotate_left; focus (first | omega | (simp; done) | (simp; omega))) | ((with_reducible refine Below.alloc ?_ ?_ _); rotate_left; focus (first | omega | (simp; done) | (simp; omega))) | ((with_reducible refine Below.trans ?_ (Below.mono hb1 ?_)); rotate_left; focus (first | omega | (simp; done) | (simp; omega)))))))).mono ?_
    rintro e w2 ⟨a2, cap2, ms2, rfl, hi2, hm2, hb2⟩
    obtain ⟨hc2, hf2⟩ := bcell hb2; have hz2 := hb2.size; (try simp only [World.size_alloc, World.size_setCell, World.size_drew, sizeDrewN] at hz2 hc2 hf2); have hp2_0 : w.heap.size < w2.heap.size := (by omega)
    simp only [Dat.k_mk, Dat.n_mk, Dat.s_mk, Dat.ds_mk] at hi2 ⊢
    have hr2 : (w2.cell? ⟨w.heap.size + 1, 0, none⟩ = some (.int .i64 0) ∧ w2.cell? ⟨w.heap.size + 1, 1, none⟩ = some (.int .i64 0) ∧ w2.cell? ⟨w.heap.size + 1, 2, none⟩ = some (.string ⟨#[]⟩) ∧ w2.cell? ⟨w.heap.size + 1, 3, none⟩ = some (.slice none 0 0) ∧ w2.frozen? ⟨w.heap.size + 1, 0, none⟩ = false ∧ w2.frozen? ⟨w.heap.size + 1, 1, none⟩ = false ∧ w2.frozen? ⟨w.heap.size + 1, 2, none⟩ = false ∧ w2.frozen? ⟨w.heap.size + 1, 3, none⟩ = false) := by simp (disch := omega) [hc2, hf2, r0, r1, r2, r3, g0, g1, g2, g3]
    obtain ⟨s0, s1, s2, s3, h0, h1, h2, h3⟩ := hr2
    go_wp2_with fail
    refine bodyPost_ret (v := .agg #[.int .i64 k, .int .i64 n, .string s, .slice a2 ms2.length cap2]) (by simp [results, Try.results15, go_sem, s0, s1, s2, s3]) rfl ?_
    refine ⟨a2, cap2, ms2, by rw [HNO.out]; rfl, by rw [HNO.out]; exact hi2, ?_, ?_⟩
    · (exact M.Mine.mono (M.Mine.keep hm2 (fun b hb1 hb2 => by (try simp at hb1); simp (disch := (first | omega | (simp; omega))) only [heapSet, heapNew, heapDrew, heapDrewN])) (by first | omega | (simp; done) | (simp; omega)))
    · (repeat (first | with_reducible assumption | with_reducible exact Below.refl _ _ | with_reducible refine Below.drew ?_ | with_reducible refine belowDrewN ?_ _ | ((with_reducible refine Below.setCell ?_ ?_ _); rotate_left; focus (first | omega | (simp; done) | (simp; omega))) | ((with_reducible refine Below.alloc ?_ ?_ _); rotate_left; focus (first | omega | (simp; done) | (simp; omega))) | ((with_reducible refine Below.trans ?_ (Below.mono hb1 ?_)); rotate_left; focus (first | omega | (simp; done) | (simp; omega))) | ((with_reducible refine Below.trans ?_ (Below.mono hb2 ?_)); rotate_left; focus (first | omega | (simp; done) | (simp; omega)))))
  | true =>
    go_wp2_with fail
    refine (iIsSymbol_calls p _ hsp).mono ?_
    rintro e w' ⟨rfl, rfl⟩
    cases hp : isSymB p with
    | false =>
      have hno : swOk k n s ds p q = false := by unfold swOk; rw [hv, hp]; rfl
      have HP := Lib.hid hp; clear hp
      have HV := Lib.hid hv; clear hv; have HNO := Lib.hid hno; clear hno
      go_wp2_with fail
      refine (copyDatum_of ds (copyData_calls ds) k n s a cap ms _ (by omega) HI.out (HIN.out.below (by (repeat (first | with_reducible assumption | with_reducible exact Below.refl _ _ | with_reducible refine Below.drew ?_ | with_reducible refine belowDrewN ?_ _ | ((with_reducible refine Below.setCell ?_ ?_ _); rotate_left; focus (first | omega | (simp; done) | (simp; omega))) | ((with_reducible refine Below.alloc ?_ ?_ _); rotate_left; focus (first | omega | (simp; done) | (simp; omega))) | ((with_reducible refine Below.trans ?_ (Below.mono hb1 ?_)); rotate_left; focus (first | omega | (simp; done) | (simp; omega)))))))).mono ?_
      rintro e w2 ⟨a2, cap2, ms2, rfl, hi2, hm2, hb2⟩
      obtain ⟨hc2, hf2⟩ := bcell hb2; have hz2 := hb2.size; (try simp only [World.size_alloc, World.size_setCell, World.size_drew, sizeDrewN] at hz2 hc2 hf2); have hp2_0 : w.heap.size < w2.heap.size := (by omega)
      simp only [Dat.k_mk, Dat.n_mk, Dat.s_mk, Dat.ds_mk] at hi2 ⊢
      have hr2 : (w2.cell? ⟨w.heap.size + 1, 0, none⟩ = some (.int .i64 0) ∧ w2.cell? ⟨w.heap.size + 1, 1, none⟩ = some (.int .i64 0) ∧ w2.cell? ⟨w.heap.size + 1, 2, none⟩ = some (.string ⟨#[]⟩) ∧ w2.cell? ⟨w.heap.size + 1, 3, none⟩ = some (.slice none 0 0) ∧ w2.frozen? ⟨w.heap.size + 1, 0, none⟩ = false ∧ w2.frozen? ⟨w.heap.size + 1, 1, none⟩ = false ∧ w2.frozen? ⟨w.heap.size + 1, 2, none⟩ = false ∧ w2.frozen? ⟨w.heap.size + 1, 3, none⟩ = false) := by simp (disch := omega) [hc2, hf2, r0, r1, r2, r3, g0, g1, g2, g3]
      obtain ⟨s0, s1, s2, s3, h0, h1, h2, h3⟩ := hr2
      go_wp2_with fail
      refine bodyPost_ret (v := .agg #[.int .i64 k, .int .i64 n, .string s, .slice a2 ms2.length cap2]) (by simp [results, Try.results15, go_sem, s0, s1, s2, s3]) rfl ?_
      refine ⟨a2, cap2, ms2, by rw [HNO.out]; rfl, by rw [HNO.out]; exact hi2, ?_, ?_⟩
      · (exact M.Mine.mono (M.Mine.keep hm2 (fun b hb1 hb2 => by (try simp at hb1); simp (disch := (first | omega | (simp; omega))) only [heapSet, heapNew, heapDrew, heapDrewN])) (by first | omega | (simp; done) | (simp; omega)))
      · (repeat (first | with_reducible assumption | with_reducible exact Below.refl _ _ | with_reducible refine Below.drew ?_ | with_reducible refine belowDrewN ?_ _ | ((with_reducible refine Below.setCell ?_ ?_ _); rotate_left; focus (first | omega | (simp; done) | (simp; omega))) | ((with_reducible refine Below.alloc ?_ ?_ _); rotate_left; focus (first | omega | (simp; done) | (simp; omega))) | ((with_reducible refine Below.trans ?_ (Below.mono hb1 ?_)); rotate_left; focus (first | omega | (simp; done) | (simp; omega))) | ((with_reducible refine Below.trans ?_ (Below.mono hb2 ?_)); rotate_left; focus (first | omega | (simp; done) | (simp; omega)))))
    | true =>
      go_wp2_with fail
      refine (iIsSymbol_calls q _ hsq).mono ?_
      rintro e w' ⟨rfl, rfl⟩
      cases hq : isSymB q with
      | false =>
        have hno : swOk k n s ds p q = false := by unfold swOk; rw [hv, hp, hq]; rfl
        have HP := Lib.hid hp; clear hp; have HQ := Lib.hid hq; clear hq
        have HV := Lib.hid hv; clear hv; have HNO := Lib.hid hno; clear hno
        go_wp2_with fail
        refine (copyDatum_of ds (copyData_calls ds) k n s a cap ms _ (by omega) HI.out (HIN.out.below (by (repeat (first | with_reducible assumption | with_reducible exact Below.refl _ _ | with_reducible refine Below.drew ?_ | with_reducible refine belowDrewN ?_ _ | ((with_reducible refine Below.setCell ?_ ?_ _); rotate_left; focus (first | omega | (simp; done) | (simp; omega))) | ((with_reducible refine Below.alloc ?_ ?_ _); rotate_left; focus (first | omega | (simp; done) | (simp; omega))) | ((with_reducible refine Below.trans ?_ (Below.mono hb1 ?_)); rotate_left; focus (first | omega | (simp; done) | (simp; omega)))))))).mono ?_
        rintro e w2 ⟨a2, cap2, ms2, rfl, hi2, hm2, hb2⟩
        obtain ⟨hc2, hf2⟩ := bcell hb2; have hz2 := hb2.size; (try simp only [World.size_alloc, World.size_setCell, World.size_drew, sizeDrewN] at hz2 hc2 hf2); have hp2_0 : w.heap.size < w2.heap.size := (by omega)
        simp only [Dat.k_mk, Dat.n_mk, Dat.s_mk, Dat.ds_mk] at hi2 ⊢
        have hr2 : (w2.cell? ⟨w.heap.size + 1, 0, none⟩ = some (.int .i64 0) ∧ w2.cell? ⟨w.heap.size + 1, 1, none⟩ = some (.int .i64 0) ∧ w2.cell? ⟨w.heap.size + 1, 2, none⟩ = some (.string ⟨#[]⟩) ∧ w2.cell? ⟨w.heap.size + 1, 3, none⟩ = some (.slice none 0 0) ∧ w2.frozen? ⟨w.heap.size + 1, 0, none⟩ = false ∧ w2.frozen? ⟨w.heap.size + 1, 1, none⟩ = false ∧ w2.frozen? ⟨w.heap.size + 1, 2, none⟩ = false ∧ w2.frozen? ⟨w.heap.size + 1, 3, none⟩ = false) := by simp (disch := omega) [hc2, hf2, r0, r1, r2, r3, g0, g1, g2, g3]
        obtain ⟨s0, s1, s2, s3, h0, h1, h2, h3⟩ := hr2
        go_wp2_with fail
        refine bodyPost_ret (v := .agg #[.int .i64 k, .int .i64 n, .string s, .slice a2 ms2.length cap2]) (by simp [results, Try.results15, go_sem, s0, s1, s2, s3]) rfl ?_
        refine ⟨a2, cap2, ms2, by rw [HNO.out]; rfl, by rw [HNO.out]; exact hi2, ?_, ?_⟩
        · (exact M.Mine.mono (M.Mine.keep hm2 (fun b hb1 hb2 => by (try simp at hb1); simp (disch := (first | omega | (simp; omega))) only [heapSet, heapNew, heapDrew, heapDrewN])) (by first | omega | (simp; done) | (simp; omega)))
        · (repeat (first | with_reducible assumption | with_reducible exact Below.refl _ _ | with_reducible refine Below.drew ?_ | with_reducible refine belowDrewN ?_ _ | ((with_reducible refine Below.setCell ?_ ?_ _); rotate_left; focus (first | omega | (simp; done) | (simp; omega))) | ((with_reducible refine Below.alloc ?_ ?_ _); rotate_left; focus (first | omega | (simp; done) | (simp; omega))) | ((with_reducible refine Below.trans ?_ (Below.mono hb1 ?_)); rotate_left; focus (first | omega | (simp; done) | (simp; omega))) | ((with_reducible refine Below.trans ?_ (Below.mono hb2 ?_)); rotate_left; focus (first | omega | (simp; done) | (simp; omega)))))
      | true =>
        have hno : swOk k n s ds p q = true := by unfold swOk; rw [hv, hp, hq]; rfl
        have HP := Lib.hid hp; clear hp; have HQ := Lib.hid hq; clear hq; have HV := Lib.hid hv; clear hv; have HNO := Lib.hid hno; clear hno
        go_wp2_with fail
        refine (swapped_calls ds k n s p q a cap ms _ (by omega) HI.out (HIN.out.below (by (repeat (first | with_reducible assumption | with_reducible exact Below.refl _ _ | with_reducible refine Below.drew ?_ | with_reducible refine belowDrewN ?_ _ | ((with_reducible refine Below.setCell ?_ ?_ _); rotate_left; focus (first | omega | (simp; done) | (simp; omega))) | ((with_reducible refine Below.alloc ?_ ?_ _); rotate_left; focus (first | omega | (simp; done) | (simp; omega))) | ((with_reducible refine Below.trans ?_ (Below.mono hb1 ?_)); rotate_left; focus (first | omega | (simp; done) | (simp; omega)))))))).mono ?_
        rintro e w2 ⟨a2, cap2, ms2, rfl, hi2, hm2, hb2⟩
        obtain ⟨hc2, hf2⟩ := bcell hb2; have hz2 := hb2.size; (try simp only [World.size_alloc, World.size_setCell, World.size_drew, sizeDrewN] at hz2 hc2 hf2); have hp2_0 : w.heap.size < w2.heap.size := (by omega)
        simp only [Dat.k_mk, Dat.n_mk, Dat.s_mk, Dat.ds_mk] at hi2 ⊢
        have hr2 : (w2.cell? ⟨w.heap.size + 1, 0, none⟩ = some (.int .i64 0) ∧ w2.cell? ⟨w.heap.size + 1, 1, none⟩ = some (.int .i64 0) ∧ w2.cell? ⟨w.heap.size + 1, 2, none⟩ = some (.string ⟨#[]⟩) ∧ w2.cell? ⟨w.heap.size + 1, 3, none⟩ = some (.slice none 0 0) ∧ w2.frozen? ⟨w.heap.size + 1, 0, none⟩ = false ∧ w2.frozen? ⟨w.heap.size + 1, 1, none⟩ = false ∧ w2.frozen? ⟨w.heap.size + 1, 2, none⟩ = false ∧ w2.frozen? ⟨w.heap.size + 1, 3, none⟩ = false) := by simp (disch := omega) [hc2, hf2, r0, r1, r2, r3, g0, g1, g2, g3]
        obtain ⟨s0, s1, s2, s3, h0, h1, h2, h3⟩ := hr2
        go_wp2_with fail
        refine bodyPost_ret (v := .agg #[.int .i64 k, .int .i64 n, .string (swS k p q s), .slice a2 ms2.length cap2]) (by simp [results, Try.results15, go_sem, s0, s1, s2, s3]) rfl ?_
        refine ⟨a2, cap2, ms2, by rw [HNO.out]; rfl, by rw [HNO.out]; exact hi2, ?_, ?_⟩
        · (exact M.Mine.mono (M.Mine.keep hm2 (fun b hb1 hb2 => by (try simp at hb1); simp (disch := (first | omega | (simp; omega))) only [heapSet, heapNew, heapDrew, heapDrewN])) (by first | omega | (simp; done) | (simp; omega)))
        · (repeat (first | with_reducible assumption | with_reducible exact Below.refl _ _ | with_reducible refine Below.drew ?_ | with_reducible refine belowDrewN ?_ _ | ((with_reducible refine Below.setCell ?_ ?_ _); rotate_left; focus (first | omega | (simp; done) | (simp; omega))) | ((with_reducible refine Below.alloc ?_ ?_ _); rotate_left; focus (first | omega | (simp; done) | (simp; omega))) | ((with_reducible refine Below.trans ?_ (Below.mono hb1 ?_)); rotate_left; focus (first | omega | (simp; done) | (simp; omega))) | ((with_reducible refine Below.trans ?_ (Below.mono hb2 ?_)); rotate_left; focus (first | omega | (simp; done) | (simp; omega)))))
end Go.Proofs.Ytoflfamfhpijcaa
