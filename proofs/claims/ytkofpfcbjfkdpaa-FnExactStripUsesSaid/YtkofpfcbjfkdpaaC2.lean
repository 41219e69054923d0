/-
  Walks: the reference's copy of data, ListDatum. No condition.
-/
import Derived.Test.YtkofpfcbjfkdpaaC1
import Derived.Test.YtkofpfcbjfkdpaaStep
set_option linter.unusedVariables false
set_option linter.unusedSimpArgs false
set_option maxRecDepth 100000
namespace Go.Proofs.Ytkofpfcbjfkdpaa
open Go.RowKit

def ScDs (ds : List Dat) : Prop := ∀ (k n : Int) (s : ByteArray) (a : Option Addr) (cap : Nat) (ms : List M) (w : World), Dat.countL ds ≤ 1000000000 → Dat.IsL 31 ds ms → (M.sl a cap 4 31 ms).In w →
    Calls Try.prog 120 #[.agg #[.int .i64 k, .int .i64 n, .string s, .slice a ms.length cap]] w (RetDat 31 (.mk k n s ds) w)
set_option maxHeartbeats 2000000 in
theorem l1Copy_calls : ∀ ds, ScDs ds := by
  refine Dat.inductL fun ds ih => ?_
  intro k n s a cap ms w hB hi hin
  have hl := hi.length
  have hcap := hin.len
  have hdl := Dat.length_le ds
  have IH := Lib.hid ih; clear ih; have HIN := Lib.hid hin; clear hin; have HI := Lib.hid hi; clear hi; have HL := Lib.hid hl; clear hl
  go_enter Try.func120, Try.ntmps120
  go_wp2_with fail
  go_loopw [16] (fun i wr => ∃ (j : Nat) (a' : Option Addr) (cap' : Nat) (ms' : List M), j ≤ ms.length ∧ i = .int .i64 j ∧ ms'.length = j ∧ Dat.IsL 31 (ds.take j) ms' ∧ (M.sl a' cap' 4 31 ms').Mine wr (w.heap.size + 1 + 1 + 1) ∧
      (wr.cell? ⟨w.heap.size + 1 + 1, 0, none⟩ = some (.int .i64 k) ∧ wr.cell? ⟨w.heap.size + 1 + 1, 1, none⟩ = some (.int .i64 n) ∧ wr.cell? ⟨w.heap.size + 1 + 1, 2, none⟩ = some (.string s) ∧ wr.cell? ⟨w.heap.size + 1 + 1, 3, none⟩ = some (.slice a' ms'.length cap') ∧ wr.frozen? ⟨w.heap.size + 1 + 1, 3, none⟩ = false) ∧
      (wr.cell? ⟨w.heap.size + 1, 0, none⟩ = some (.int .i64 0) ∧ wr.cell? ⟨w.heap.size + 1, 1, none⟩ = some (.int .i64 0) ∧ wr.cell? ⟨w.heap.size + 1, 2, none⟩ = some (.string ⟨#[]⟩) ∧ wr.cell? ⟨w.heap.size + 1, 3, none⟩ = some (.slice none 0 0) ∧ wr.frozen? ⟨w.heap.size + 1, 0, none⟩ = false ∧ wr.frozen? ⟨w.heap.size + 1, 1, none⟩ = false ∧ wr.frozen? ⟨w.heap.size + 1, 2, none⟩ = false ∧ wr.frozen? ⟨w.heap.size + 1, 3, none⟩ = false) ∧
      Below w.heap.size w wr ∧ w.heap.size + 1 + 1 + 1 ≤ wr.heap.size) (fun i _ => ms.length - (intOf i).toNat)
  case atStart => exact ⟨0, none, 0, [], Nat.zero_le _, rfl, rfl, by simp [Dat.IsL], M.Mine.nil _ _ _ _ (by decide), by simp [go_sem], by simp [go_sem], by (repeat (first | with_reducible assumption | with_reducible exact Below.refl _ _ | with_reducible refine Below.drew ?_ | with_reducible refine belowDrewN ?_ _ | ((with_reducible refine Below.setCell ?_ ?_ _); rotate_left; focus (first | omega | (simp; done) | (simp; omega))) | ((with_reducible refine Below.alloc ?_ ?_ _); rotate_left; focus (first | omega | (simp; done) | (simp; omega))))), by simp⟩
  case round =>
    obtain ⟨j, a', cap', ms', hj, rfl, hj', hi', hm', ⟨q0, q1, q2, q3, qf⟩, ⟨r0, r1, r2, r3, g0, g1, g2, g3⟩, hb, hsz⟩ := hrel
    have p3 : w.heap.size + 1 + 1 < wr.heap.size := by omega
    have p2 : w.heap.size + 1 < wr.heap.size := by omega
    by_cases hlt : j < ms.length
    · obtain ⟨b, off, k1, n1, s1, ds1, a1, cap1, ms1, rfl, hd, hi1, hin1, c0, c1, c2, c3⟩ := Dat.elem (HIN.out.below hb) HI.out j hlt
      obtain ⟨ht, hle⟩ := Dat.countL_le ds j _ hd
      simp only [Dat.count] at hle
      clear ht
      have HD := Lib.hid hd; clear hd; have HI1 := Lib.hid hi1; clear hi1; have HIN1 := Lib.hid hin1; clear hin1; have HJ' := Lib.hid hj'; clear hj'; have HI' := Lib.hid hi'; clear hi'; have HM' := Lib.hid hm'; clear hm'
      go_wp2_with fail
      go_region_law (first
        | (go_simp; go_at_call 120; refine (IH.out k1 n1 s1 ds1 (List.mem_of_getElem? HD.out) k1 n1 s1 a1 cap1 ms1 _ (by omega) HI1.out (HIN1.out.below (by (repeat (first | with_reducible assumption | with_reducible exact Below.refl _ _ | with_reducible refine Below.drew ?_ | with_reducible refine belowDrewN ?_ _ | ((with_reducible refine Below.setCell ?_ ?_ _); rotate_left; focus (first | omega | (simp; done) | (simp; omega))) | ((with_reducible refine Below.alloc ?_ ?_ _); rotate_left; focus (first | omega | (simp; done) | (simp; omega)))))))).mono ?_; rintro e w1 ⟨a2, cap2, ms2, rfl, hi2, hm2, hb2⟩; obtain ⟨hc2, hf2⟩ := bcell hb2; have hz2 := hb2.size; (try simp only [World.size_alloc, World.size_setCell, World.size_drew, sizeDrewN] at hz2 hc2 hf2); have q3c : w1.cell? ⟨w.heap.size + 1 + 1, 3, none⟩ = some (.slice a' ms'.length cap') := (by simp (disch := omega) [hc2, q3, go_sem]); have p3c : w.heap.size + 1 + 1 < w1.heap.size := (by omega))
        | (refine step_push (wr := wr) rfl _ _ 29 rfl 31 _ 4 56 Try.underlying29 infoDat rfl (by decide) (w.heap.size + 1 + 1 + 1) a' cap' ms' rfl HM'.out hsz (by (repeat (first | with_reducible assumption | with_reducible exact Below.refl _ _ | with_reducible refine Below.drew ?_ | with_reducible refine belowDrewN ?_ _ | ((with_reducible refine Below.setCell ?_ ?_ _); rotate_left; focus (first | omega | (simp; done) | (simp; omega))) | ((with_reducible refine Below.alloc ?_ ?_ _); rotate_left; focus (first | omega | (simp; done) | (simp; omega))) | ((with_reducible refine Below.trans ?_ (Below.mono hb2 ?_)); rotate_left; focus (first | omega | (simp; done) | (simp; omega)))))) _ (.ag [.c (.int .i64 k1), .c (.int .i64 n1), .c (.string s1), .sl a2 cap2 4 31 ms2]) rfl rfl _ (Dat.mine hm2) (by simp) rfl (by have := HJ'.out; unfold maxLen; omega) (by have := HJ'.out; have := HL.out; omega) ?_; intro a3 cap3 w3 hm3 hb3 hz3 hfr3; have q3' : w3.cell? ⟨w.heap.size + 1 + 1, 3, none⟩ = some (.slice a' ms'.length cap') := (by rw [hb3.cell (by simp)]; simp (disch := omega) [hc2, q3, go_sem]); have qf' : w3.frozen? ⟨w.heap.size + 1 + 1, 3, none⟩ = false := (by rw [hb3.frozen (by simp)]; simp (disch := omega) [hf2, qf, go_sem])))
      all_goals
        have q0' : w3.cell? ⟨w.heap.size + 1 + 1, 0, none⟩ = some (.int .i64 k) := by rw [hb3.cell (by simp)]; simp (disch := omega) [hc2, q0, go_sem]
        have q1' : w3.cell? ⟨w.heap.size + 1 + 1, 1, none⟩ = some (.int .i64 n) := by rw [hb3.cell (by simp)]; simp (disch := omega) [hc2, q1, go_sem]
        have q2' : w3.cell? ⟨w.heap.size + 1 + 1, 2, none⟩ = some (.string s) := by rw [hb3.cell (by simp)]; simp (disch := omega) [hc2, q2, go_sem]
        have r0' : w3.cell? ⟨w.heap.size + 1, 0, none⟩ = some (.int .i64 0) := by rw [hb3.cell (by simp)]; simp (disch := omega) [hc2, r0, go_sem]
        have r1' : w3.cell? ⟨w.heap.size + 1, 1, none⟩ = some (.int .i64 0) := by rw [hb3.cell (by simp)]; simp (disch := omega) [hc2, r1, go_sem]
        have r2' : w3.cell? ⟨w.heap.size + 1, 2, none⟩ = some (.string ⟨#[]⟩) := by rw [hb3.cell (by simp)]; simp (disch := omega) [hc2, r2, go_sem]
        have r3' : w3.cell? ⟨w.heap.size + 1, 3, none⟩ = some (.slice none 0 0) := by rw [hb3.cell (by simp)]; simp (disch := omega) [hc2, r3, go_sem]
        have g0' : w3.frozen? ⟨w.heap.size + 1, 0, none⟩ = false := by rw [hb3.frozen (by simp)]; simp (disch := omega) [hf2, g0, go_sem]
        have g1' : w3.frozen? ⟨w.heap.size + 1, 1, none⟩ = false := by rw [hb3.frozen (by simp)]; simp (disch := omega) [hf2, g1, go_sem]
        have g2' : w3.frozen? ⟨w.heap.size + 1, 2, none⟩ = false := by rw [hb3.frozen (by simp)]; simp (disch := omega) [hf2, g2, go_sem]
        have g3' : w3.frozen? ⟨w.heap.size + 1, 3, none⟩ = false := by rw [hb3.frozen (by simp)]; simp (disch := omega) [hf2, g3, go_sem]
        have hfin : Dat.IsL 31 (ds.take (j + 1)) (ms' ++ [.ag [.c (.int .i64 k1), .c (.int .i64 n1), .c (.string s1), .sl a2 cap2 4 31 ms2]]) := by
          rw [take_snoc HD.out]; exact HI'.out.snoc ⟨_, _, _, rfl, hi2⟩
        have hjj := HJ'.out
        have HFIN := Lib.hid hfin; clear hfin; have HM3 := Lib.hid hm3; clear hm3; have HI2 := Lib.hid hi2; clear hi2; have HM2 := Lib.hid hm2; clear hm2
        go_wp2_with fail
        go_roundw
        case rel =>
          refine ⟨j + 1, a3, cap3, ms' ++ [.ag [.c (.int .i64 k1), .c (.int .i64 n1), .c (.string s1), .sl a2 cap2 4 31 ms2]], by omega, by go_num, by simp [hjj], HFIN.out, ?_, ?_, ?_, ?_, ?_⟩
          · exact M.Mine.keep HM3.out (fun b hb1 hb2 => by simp (disch := (first | omega | (simp; omega))) only [heapSet])
          · simp [go_sem, q0', q1', q2', q3', qf', hjj]
          · simp [go_sem, r0', r1', r2', r3', g0', g1', g2', g3']
          · (repeat (first | with_reducible assumption | with_reducible exact Below.refl _ _ | with_reducible refine Below.drew ?_ | with_reducible refine belowDrewN ?_ _ | ((with_reducible refine Below.setCell ?_ ?_ _); rotate_left; focus (first | omega | (simp; done) | (simp; omega))) | ((with_reducible refine Below.alloc ?_ ?_ _); rotate_left; focus (first | omega | (simp; done) | (simp; omega))) | ((with_reducible refine Below.trans ?_ (Below.mono hb2 ?_)); rotate_left; focus (first | omega | (simp; done) | (simp; omega))) | ((with_reducible refine Below.trans ?_ (Below.mono hb3 ?_)); rotate_left; focus (first | omega | (simp; done) | (simp; omega)))))
          · simp; omega
        case measure => simp [intOf]; omega
    · go_wp2_with fail
      refine bodyPost_ret (v := .agg #[.int .i64 k, .int .i64 n, .string s, .slice a' ms'.length cap']) (by simp [results, Try.results120, go_sem, q0, q1, q2, q3, r0, r1, r2, r3, hj']) rfl ?_
      have hk2 : j = ms.length := by omega
      subst hk2
      refine ⟨a', cap', ms', rfl, ?_, ?_, ?_⟩
      · rw [HL.out, List.take_length] at hi'
        exact hi'
      · (exact M.Mine.mono (M.Mine.keep hm' (fun b hb1 hb2 => by (try simp at hb1); simp (disch := (first | omega | (simp; omega))) only [heapSet, heapNew, heapDrew, heapDrewN])) (by first | omega | (simp; done) | (simp; omega)))
      · (repeat (first | with_reducible assumption | with_reducible exact Below.refl _ _ | with_reducible refine Below.drew ?_ | with_reducible refine belowDrewN ?_ _ | ((with_reducible refine Below.setCell ?_ ?_ _); rotate_left; focus (first | omega | (simp; done) | (simp; omega))) | ((with_reducible refine Below.alloc ?_ ?_ _); rotate_left; focus (first | omega | (simp; done) | (simp; omega))) | ((with_reducible refine Below.trans ?_ (Below.mono hb ?_)); rotate_left; focus (first | omega | (simp; done) | (simp; omega)))))
end Go.Proofs.Ytkofpfcbjfkdpaa
