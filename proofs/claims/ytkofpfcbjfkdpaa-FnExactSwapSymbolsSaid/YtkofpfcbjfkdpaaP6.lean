/-
  Walks: the reference's exchange of two symbols. No condition. (printed by wip/tools/mkt1.py)
-/
import Derived.Test.YtkofpfcbjfkdpaaBox
import Derived.Test.YtkofpfcbjfkdpaaP4
import Derived.Test.YtkofpfcbjfkdpaaC2
set_option linter.unusedVariables false
set_option linter.unusedSimpArgs false
set_option maxRecDepth 100000
namespace Go.Proofs.Ytkofpfcbjfkdpaa
open Go.RowKit

def SsDs2 (ds : List Dat) : Prop := ∀ (k n : Int) (s p q : ByteArray) (a : Option Addr) (cap : Nat) (ms : List M) (w : World), Dat.countL ds ≤ 1000000000 → Dat.IsL 31 ds ms → (M.sl a cap 4 31 ms).In w →
    Calls Try.prog 121 #[.agg #[.int .i64 k, .int .i64 n, .string s, .slice a ms.length cap], .string p, .string q] w (RetDat 31 (.mk k n (swS k p q s) (swL p q ds)) w)
set_option maxHeartbeats 4000000 in
theorem l1Swap_calls : ∀ ds, SsDs2 ds := by
  refine Dat.inductL fun ds ih => ?_
  intro k n s p q a cap ms w hB hi hin
  have hl := hi.length
  have hcap := hin.len
  have hdl := Dat.length_le ds
  have IH := Lib.hid ih; clear ih; have HIN := Lib.hid hin; clear hin; have HI := Lib.hid hi; clear hi; have HL := Lib.hid hl; clear hl
  go_enter Try.func121, Try.ntmps121
  by_cases hk : k = 1
  · subst hk
    by_cases hsp : s = p
    · have hps := hsp.symm
      clear hsp
      subst hps
      rw [swS_p]
      go_wp2_with fail
      go_loopw [42] (fun i wr => ∃ (j : Nat) (a' : Option Addr) (cap' : Nat) (ms' : List M), j ≤ ms.length ∧ i = .int .i64 j ∧ ms'.length = j ∧ Dat.IsL 31 (swL p q (ds.take j)) ms' ∧ (M.sl a' cap' 4 31 ms').Mine wr (w.heap.size + 1 + 1 + 1) ∧
          DBox (w.heap.size + 1 + 1) 1 n q (.slice a' ms'.length cap') wr ∧ DBox (w.heap.size + 1) 0 0 ⟨#[]⟩ (.slice none 0 0) wr ∧ Below w.heap.size w wr ∧ w.heap.size + 1 + 1 + 1 ≤ wr.heap.size) (fun i _ => ms.length - (intOf i).toNat)
      case atStart => exact ⟨0, none, 0, [], Nat.zero_le _, rfl, rfl, by simp [swL, Dat.IsL], M.Mine.nil _ _ _ _ (by decide), by constructor <;> simp [go_sem], by constructor <;> simp [go_sem], by (repeat (first | with_reducible assumption | with_reducible exact Below.refl _ _ | with_reducible refine Below.drew ?_ | with_reducible refine belowDrewN ?_ _ | ((with_reducible refine Below.setCell ?_ ?_ _); rotate_left; focus (first | omega | (simp; done) | (simp; omega))) | ((with_reducible refine Below.alloc ?_ ?_ _); rotate_left; focus (first | omega | (simp; done) | (simp; omega))))), by simp⟩
      case round =>
        obtain ⟨j, a', cap', ms', hj, rfl, hj', hi', hm', hq, hr, hb, hsz⟩ := hrel
        obtain ⟨q0, q1, q2, q3, e0, e1, e2, e3⟩ := hq
        obtain ⟨r0, r1, r2, r3, g0, g1, g2, g3⟩ := hr
        have hq : DBox (w.heap.size + 1 + 1) 1 n q (.slice a' ms'.length cap') wr := ⟨q0, q1, q2, q3, e0, e1, e2, e3⟩
        have hr : DBox (w.heap.size + 1) 0 0 ⟨#[]⟩ (.slice none 0 0) wr := ⟨r0, r1, r2, r3, g0, g1, g2, g3⟩
        have p3 := hq.lt
        have p2 := hr.lt
        by_cases hlt : j < ms.length
        · obtain ⟨b, off, k1, n1, s1, ds1, a1, cap1, ms1, rfl, hd, hi1, hin1, c0, c1, c2, c3⟩ := Dat.elem (HIN.out.below hb) HI.out j hlt
          obtain ⟨ht, hle⟩ := Dat.countL_le ds j _ hd
          simp only [Dat.count] at hle
          clear ht
          have HD := Lib.hid hd; clear hd; have HI1 := Lib.hid hi1; clear hi1; have HIN1 := Lib.hid hin1; clear hin1; have HJ' := Lib.hid hj'; clear hj'; have HI' := Lib.hid hi'; clear hi'; have HM' := Lib.hid hm'; clear hm'
          have HQ := Lib.hid hq; clear hq
          have HR := Lib.hid hr; clear hr
          go_wp2_with fail
          go_region_law (first
            | (go_simp; go_at_call 121; refine (IH.out k1 n1 s1 ds1 (List.mem_of_getElem? HD.out) k1 n1 s1 p q a1 cap1 ms1 _ (by omega) HI1.out (HIN1.out.below (by (repeat (first | with_reducible assumption | with_reducible exact Below.refl _ _ | with_reducible refine Below.drew ?_ | with_reducible refine belowDrewN ?_ _ | ((with_reducible refine Below.setCell ?_ ?_ _); rotate_left; focus (first | omega | (simp; done) | (simp; omega))) | ((with_reducible refine Below.alloc ?_ ?_ _); rotate_left; focus (first | omega | (simp; done) | (simp; omega)))))))).mono ?_; rintro e w1 ⟨a2, cap2, ms2, rfl, hi2, hm2, hb2⟩; obtain ⟨hc2, hf2⟩ := bcell hb2; have hz2 := hb2.size; (try simp only [World.size_alloc, World.size_setCell, World.size_drew, sizeDrewN] at hz2 hc2 hf2); have q3c : w1.cell? ⟨w.heap.size + 1 + 1, 3, none⟩ = some (.slice a' ms'.length cap') := (by simp (disch := omega) [hc2, q3, go_sem]); have p3c : w.heap.size + 1 + 1 < w1.heap.size := (by omega); (try simp only [Dat.k_mk, Dat.n_mk, Dat.s_mk, Dat.ds_mk, List.length_nil]))
            | (refine step_push (wr := wr) rfl _ _ 29 rfl 31 _ 4 56 Try.underlying29 infoDat rfl (by decide) (w.heap.size + 1 + 1 + 1) a' cap' ms' rfl HM'.out hsz (by (repeat (first | with_reducible assumption | with_reducible exact Below.refl _ _ | with_reducible refine Below.drew ?_ | with_reducible refine belowDrewN ?_ _ | ((with_reducible refine Below.setCell ?_ ?_ _); rotate_left; focus (first | omega | (simp; done) | (simp; omega))) | ((with_reducible refine Below.alloc ?_ ?_ _); rotate_left; focus (first | omega | (simp; done) | (simp; omega))) | ((with_reducible refine Below.trans ?_ (Below.mono hb2 ?_)); rotate_left; focus (first | omega | (simp; done) | (simp; omega)))))) _ (.ag [.c (.int .i64 k1), .c (.int .i64 n1), .c (.string (swS k1 p q s1)), .sl a2 cap2 4 31 ms2]) (by simp [M.cells, M.cellsL, intM_length]) rfl _ (Dat.mine hm2) (by simp) rfl (by have := HJ'.out; unfold maxLen; omega) (by have := HJ'.out; have := HL.out; omega) ?_; intro a3 cap3 w3 hm3 hb3 hz3 hfr3; have q3' : w3.cell? ⟨w.heap.size + 1 + 1, 3, none⟩ = some (.slice a' ms'.length cap') := (by rw [hb3.cell (by first | (simp; done) | (simp; omega))]; simp (disch := omega) [hc2, q3, go_sem]); have qf' : w3.frozen? ⟨w.heap.size + 1 + 1, 3, none⟩ = false := (by rw [hb3.frozen (by first | (simp; done) | (simp; omega))]; simp (disch := omega) [hf2, e3, go_sem])))
          all_goals
            have hbA : Below wr.heap.size wr w1 := by (repeat (first | with_reducible assumption | with_reducible exact Below.refl _ _ | with_reducible refine Below.drew ?_ | with_reducible refine belowDrewN ?_ _ | ((with_reducible refine Below.setCell ?_ ?_ _); rotate_left; focus (first | omega | (simp; done) | (simp; omega))) | ((with_reducible refine Below.alloc ?_ ?_ _); rotate_left; focus (first | omega | (simp; done) | (simp; omega))) | ((with_reducible refine Below.trans ?_ (Below.mono hb2 ?_)); rotate_left; focus (first | omega | (simp; done) | (simp; omega)))))
            have hq3 := (HQ.out.below hbA p3).below hb3 (by omega)
            have hr3 := (HR.out.below hbA p2).below hb3 (by omega)
            (try simp only [Dat.k_mk, Dat.n_mk, Dat.s_mk, Dat.ds_mk] at hi2)
            have hfin : Dat.IsL 31 (swL p q (ds.take (j + 1))) (ms' ++ [.ag [.c (.int .i64 k1), .c (.int .i64 n1), .c (.string (swS k1 p q s1)), .sl a2 cap2 4 31 ms2]]) := by
              rw [swL_take HD.out]; exact HI'.out.snoc ⟨_, _, _, rfl, hi2⟩
            have hjj := HJ'.out
            have HFIN := Lib.hid hfin; clear hfin; have HM3 := Lib.hid hm3; clear hm3; have HI2 := Lib.hid hi2; clear hi2; have HM2 := Lib.hid hm2; clear hm2; have HQ3 := Lib.hid hq3; clear hq3; have HR3 := Lib.hid hr3; clear hr3; have HBA := Lib.hid hbA; clear hbA
            go_wp2_with fail
            go_roundw
            case rel =>
              refine ⟨j + 1, a3, cap3, ms' ++ [.ag [.c (.int .i64 k1), .c (.int .i64 n1), .c (.string (swS k1 p q s1)), .sl a2 cap2 4 31 ms2]], by omega, by go_num, by simp [hjj], HFIN.out, ?_, ?_, ?_, ?_, ?_⟩
              · exact M.Mine.keep HM3.out (fun b hb1 hb2 => by simp (disch := (first | omega | (simp; omega))) only [heapSet])
              · have := HQ3.out.set3 (.slice a3 (ms'.length + 1) cap3); simpa [hjj] using this
              · exact HR3.out.far _ (by first | (simp; done) | (simp; omega))
              · (repeat (first | with_reducible assumption | with_reducible exact Below.refl _ _ | with_reducible refine Below.drew ?_ | with_reducible refine belowDrewN ?_ _ | ((with_reducible refine Below.setCell ?_ ?_ _); rotate_left; focus (first | omega | (simp; done) | (simp; omega))) | ((with_reducible refine Below.alloc ?_ ?_ _); rotate_left; focus (first | omega | (simp; done) | (simp; omega))) | ((with_reducible refine Below.trans ?_ (Below.mono hb2 ?_)); rotate_left; focus (first | omega | (simp; done) | (simp; omega))) | ((with_reducible refine Below.trans ?_ (Below.mono hb3 ?_)); rotate_left; focus (first | omega | (simp; done) | (simp; omega)))))
              · simp; omega
            case measure => simp [intOf]; omega
        · have HJ' := Lib.hid hj'; clear hj'
          have HQ := Lib.hid hq; clear hq
          have HR := Lib.hid hr; clear hr
          go_wp2_with fail
          refine bodyPost_ret (v := .agg #[.int .i64 1, .int .i64 n, .string q, .slice a' ms'.length cap']) (by simp [results, Try.results121, go_sem, q0, q1, q2, q3, r0, r1, r2, r3, HJ'.out]) rfl ?_
          have hk2 : j = ms.length := by omega
          subst hk2
          refine ⟨a', cap', ms', rfl, ?_, ?_, ?_⟩
          · rw [HL.out, List.take_length] at hi'
            exact hi'
          · (exact M.Mine.mono (M.Mine.keep hm' (fun b hb1 hb2 => by (try simp at hb1); simp (disch := (first | omega | (simp; omega))) only [heapSet, heapNew, heapDrew, heapDrewN])) (by first | omega | (simp; done) | (simp; omega)))
          · (repeat (first | with_reducible assumption | with_reducible exact Below.refl _ _ | with_reducible refine Below.drew ?_ | with_reducible refine belowDrewN ?_ _ | ((with_reducible refine Below.setCell ?_ ?_ _); rotate_left; focus (first | omega | (simp; done) | (simp; omega))) | ((with_reducible refine Below.alloc ?_ ?_ _); rotate_left; focus (first | omega | (simp; done) | (simp; omega))) | ((with_reducible refine Below.trans ?_ (Below.mono hb ?_)); rotate_left; focus (first | omega | (simp; done) | (simp; omega)))))
    · have hsb := ba_ne hsp
      by_cases hsq : s = q
      · have hqs := hsq.symm
        clear hsq
        subst hqs
        rw [swS_q hsp]
        have HSP := Lib.hid hsp; clear hsp
        go_wp2_with fail
        go_loopw [42] (fun i wr => ∃ (j : Nat) (a' : Option Addr) (cap' : Nat) (ms' : List M), j ≤ ms.length ∧ i = .int .i64 j ∧ ms'.length = j ∧ Dat.IsL 31 (swL p q (ds.take j)) ms' ∧ (M.sl a' cap' 4 31 ms').Mine wr (w.heap.size + 1 + 1 + 1) ∧
            DBox (w.heap.size + 1 + 1) 1 n p (.slice a' ms'.length cap') wr ∧ DBox (w.heap.size + 1) 0 0 ⟨#[]⟩ (.slice none 0 0) wr ∧ Below w.heap.size w wr ∧ w.heap.size + 1 + 1 + 1 ≤ wr.heap.size) (fun i _ => ms.length - (intOf i).toNat)
        case atStart => exact ⟨0, none, 0, [], Nat.zero_le _, rfl, rfl, by simp [swL, Dat.IsL], M.Mine.nil _ _ _ _ (by decide), by constructor <;> simp [go_sem], by constructor <;> simp [go_sem], by (repeat (first | with_reducible assumption | with_reducible exact Below.refl _ _ | with_reducible refine Below.drew ?_ | with_reducible refine belowDrewN ?_ _ | ((with_reducible refine Below.setCell ?_ ?_ _); rotate_left; focus (first | omega | (simp; done) | (simp; omega))) | ((with_reducible refine Below.alloc ?_ ?_ _); rotate_left; focus (first | omega | (simp; done) | (simp; omega))))), by simp⟩
        case round =>
          obtain ⟨j, a', cap', ms', hj, rfl, hj', hi', hm', hq, hr, hb, hsz⟩ := hrel
          obtain ⟨q0, q1, q2, q3, e0, e1, e2, e3⟩ := hq
          obtain ⟨r0, r1, r2, r3, g0, g1, g2, g3⟩ := hr
          have hq : DBox (w.heap.size + 1 + 1) 1 n p (.slice a' ms'.length cap') wr := ⟨q0, q1, q2, q3, e0, e1, e2, e3⟩
          have hr : DBox (w.heap.size + 1) 0 0 ⟨#[]⟩ (.slice none 0 0) wr := ⟨r0, r1, r2, r3, g0, g1, g2, g3⟩
          have p3 := hq.lt
          have p2 := hr.lt
          by_cases hlt : j < ms.length
          · obtain ⟨b, off, k1, n1, s1, ds1, a1, cap1, ms1, rfl, hd, hi1, hin1, c0, c1, c2, c3⟩ := Dat.elem (HIN.out.below hb) HI.out j hlt
            obtain ⟨ht, hle⟩ := Dat.countL_le ds j _ hd
            simp only [Dat.count] at hle
            clear ht
            have HD := Lib.hid hd; clear hd; have HI1 := Lib.hid hi1; clear hi1; have HIN1 := Lib.hid hin1; clear hin1; have HJ' := Lib.hid hj'; clear hj'; have HI' := Lib.hid hi'; clear hi'; have HM' := Lib.hid hm'; clear hm'
            have HQ := Lib.hid hq; clear hq
            have HR := Lib.hid hr; clear hr
            go_wp2_with fail
            go_region_law (first
              | (go_simp; go_at_call 121; refine (IH.out k1 n1 s1 ds1 (List.mem_of_getElem? HD.out) k1 n1 s1 p q a1 cap1 ms1 _ (by omega) HI1.out (HIN1.out.below (by (repeat (first | with_reducible assumption | with_reducible exact Below.refl _ _ | with_reducible refine Below.drew ?_ | with_reducible refine belowDrewN ?_ _ | ((with_reducible refine Below.setCell ?_ ?_ _); rotate_left; focus (first | omega | (simp; done) | (simp; omega))) | ((with_reducible refine Below.alloc ?_ ?_ _); rotate_left; focus (first | omega | (simp; done) | (simp; omega)))))))).mono ?_; rintro e w1 ⟨a2, cap2, ms2, rfl, hi2, hm2, hb2⟩; obtain ⟨hc2, hf2⟩ := bcell hb2; have hz2 := hb2.size; (try simp only [World.size_alloc, World.size_setCell, World.size_drew, sizeDrewN] at hz2 hc2 hf2); have q3c : w1.cell? ⟨w.heap.size + 1 + 1, 3, none⟩ = some (.slice a' ms'.length cap') := (by simp (disch := omega) [hc2, q3, go_sem]); have p3c : w.heap.size + 1 + 1 < w1.heap.size := (by omega); (try simp only [Dat.k_mk, Dat.n_mk, Dat.s_mk, Dat.ds_mk, List.length_nil]))
              | (refine step_push (wr := wr) rfl _ _ 29 rfl 31 _ 4 56 Try.underlying29 infoDat rfl (by decide) (w.heap.size + 1 + 1 + 1) a' cap' ms' rfl HM'.out hsz (by (repeat (first | with_reducible assumption | with_reducible exact Below.refl _ _ | with_reducible refine Below.drew ?_ | with_reducible refine belowDrewN ?_ _ | ((with_reducible refine Below.setCell ?_ ?_ _); rotate_left; focus (first | omega | (simp; done) | (simp; omega))) | ((with_reducible refine Below.alloc ?_ ?_ _); rotate_left; focus (first | omega | (simp; done) | (simp; omega))) | ((with_reducible refine Below.trans ?_ (Below.mono hb2 ?_)); rotate_left; focus (first | omega | (simp; done) | (simp; omega)))))) _ (.ag [.c (.int .i64 k1), .c (.int .i64 n1), .c (.string (swS k1 p q s1)), .sl a2 cap2 4 31 ms2]) (by simp [M.cells, M.cellsL, intM_length]) rfl _ (Dat.mine hm2) (by simp) rfl (by have := HJ'.out; unfold maxLen; omega) (by have := HJ'.out; have := HL.out; omega) ?_; intro a3 cap3 w3 hm3 hb3 hz3 hfr3; have q3' : w3.cell? ⟨w.heap.size + 1 + 1, 3, none⟩ = some (.slice a' ms'.length cap') := (by rw [hb3.cell (by first | (simp; done) | (simp; omega))]; simp (disch := omega) [hc2, q3, go_sem]); have qf' : w3.frozen? ⟨w.heap.size + 1 + 1, 3, none⟩ = false := (by rw [hb3.frozen (by first | (simp; done) | (simp; omega))]; simp (disch := omega) [hf2, e3, go_sem])))
            all_goals
              have hbA : Below wr.heap.size wr w1 := by (repeat (first | with_reducible assumption | with_reducible exact Below.refl _ _ | with_reducible refine Below.drew ?_ | with_reducible refine belowDrewN ?_ _ | ((with_reducible refine Below.setCell ?_ ?_ _); rotate_left; focus (first | omega | (simp; done) | (simp; omega))) | ((with_reducible refine Below.alloc ?_ ?_ _); rotate_left; focus (first | omega | (simp; done) | (simp; omega))) | ((with_reducible refine Below.trans ?_ (Below.mono hb2 ?_)); rotate_left; focus (first | omega | (simp; done) | (simp; omega)))))
              have hq3 := (HQ.out.below hbA p3).below hb3 (by omega)
              have hr3 := (HR.out.below hbA p2).below hb3 (by omega)
              (try simp only [Dat.k_mk, Dat.n_mk, Dat.s_mk, Dat.ds_mk] at hi2)
              have hfin : Dat.IsL 31 (swL p q (ds.take (j + 1))) (ms' ++ [.ag [.c (.int .i64 k1), .c (.int .i64 n1), .c (.string (swS k1 p q s1)), .sl a2 cap2 4 31 ms2]]) := by
                rw [swL_take HD.out]; exact HI'.out.snoc ⟨_, _, _, rfl, hi2⟩
              have hjj := HJ'.out
              have HFIN := Lib.hid hfin; clear hfin; have HM3 := Lib.hid hm3; clear hm3; have HI2 := Lib.hid hi2; clear hi2; have HM2 := Lib.hid hm2; clear hm2; have HQ3 := Lib.hid hq3; clear hq3; have HR3 := Lib.hid hr3; clear hr3; have HBA := Lib.hid hbA; clear hbA
              go_wp2_with fail
              go_roundw
              case rel =>
                refine ⟨j + 1, a3, cap3, ms' ++ [.ag [.c (.int .i64 k1), .c (.int .i64 n1), .c (.string (swS k1 p q s1)), .sl a2 cap2 4 31 ms2]], by omega, by go_num, by simp [hjj], HFIN.out, ?_, ?_, ?_, ?_, ?_⟩
                · exact M.Mine.keep HM3.out (fun b hb1 hb2 => by simp (disch := (first | omega | (simp; omega))) only [heapSet])
                · have := HQ3.out.set3 (.slice a3 (ms'.length + 1) cap3); simpa [hjj] using this
                · exact HR3.out.far _ (by first | (simp; done) | (simp; omega))
                · (repeat (first | with_reducible assumption | with_reducible exact Below.refl _ _ | with_reducible refine Below.drew ?_ | with_reducible refine belowDrewN ?_ _ | ((with_reducible refine Below.setCell ?_ ?_ _); rotate_left; focus (first | omega | (simp; done) | (simp; omega))) | ((with_reducible refine Below.alloc ?_ ?_ _); rotate_left; focus (first | omega | (simp; done) | (simp; omega))) | ((with_reducible refine Below.trans ?_ (Below.mono hb2 ?_)); rotate_left; focus (first | omega | (simp; done) | (simp; omega))) | ((with_reducible refine Below.trans ?_ (Below.mono hb3 ?_)); rotate_left; focus (first | omega | (simp; done) | (simp; omega)))))
                · simp; omega
              case measure => simp [intOf]; omega
          · have HJ' := Lib.hid hj'; clear hj'
            have HQ := Lib.hid hq; clear hq
            have HR := Lib.hid hr; clear hr
            go_wp2_with fail
            refine bodyPost_ret (v := .agg #[.int .i64 1, .int .i64 n, .string p, .slice a' ms'.length cap']) (by simp [results, Try.results121, go_sem, q0, q1, q2, q3, r0, r1, r2, r3, HJ'.out]) rfl ?_
            have hk2 : j = ms.length := by omega
            subst hk2
            refine ⟨a', cap', ms', rfl, ?_, ?_, ?_⟩
            · rw [HL.out, List.take_length] at hi'
              exact hi'
            · (exact M.Mine.mono (M.Mine.keep hm' (fun b hb1 hb2 => by (try simp at hb1); simp (disch := (first | omega | (simp; omega))) only [heapSet, heapNew, heapDrew, heapDrewN])) (by first | omega | (simp; done) | (simp; omega)))
            · (repeat (first | with_reducible assumption | with_reducible exact Below.refl _ _ | with_reducible refine Below.drew ?_ | with_reducible refine belowDrewN ?_ _ | ((with_reducible refine Below.setCell ?_ ?_ _); rotate_left; focus (first | omega | (simp; done) | (simp; omega))) | ((with_reducible refine Below.alloc ?_ ?_ _); rotate_left; focus (first | omega | (simp; done) | (simp; omega))) | ((with_reducible refine Below.trans ?_ (Below.mono hb ?_)); rotate_left; focus (first | omega | (simp; done) | (simp; omega)))))
      · have hsb2 := ba_ne hsq
        rw [swS_no hsp hsq]
        have HSP := Lib.hid hsp; clear hsp; have HSQ := Lib.hid hsq; clear hsq
        go_wp2_with fail
        go_loopw [42] (fun i wr => ∃ (j : Nat) (a' : Option Addr) (cap' : Nat) (ms' : List M), j ≤ ms.length ∧ i = .int .i64 j ∧ ms'.length = j ∧ Dat.IsL 31 (swL p q (ds.take j)) ms' ∧ (M.sl a' cap' 4 31 ms').Mine wr (w.heap.size + 1 + 1 + 1) ∧
            DBox (w.heap.size + 1 + 1) 1 n s (.slice a' ms'.length cap') wr ∧ DBox (w.heap.size + 1) 0 0 ⟨#[]⟩ (.slice none 0 0) wr ∧ Below w.heap.size w wr ∧ w.heap.size + 1 + 1 + 1 ≤ wr.heap.size) (fun i _ => ms.length - (intOf i).toNat)
        case atStart => exact ⟨0, none, 0, [], Nat.zero_le _, rfl, rfl, by simp [swL, Dat.IsL], M.Mine.nil _ _ _ _ (by decide), by constructor <;> simp [go_sem], by constructor <;> simp [go_sem], by (repeat (first | with_reducible assumption | with_reducible exact Below.refl _ _ | with_reducible refine Below.drew ?_ | with_reducible refine belowDrewN ?_ _ | ((with_reducible refine Below.setCell ?_ ?_ _); rotate_left; focus (first | omega | (simp; done) | (simp; omega))) | ((with_reducible refine Below.alloc ?_ ?_ _); rotate_left; focus (first | omega | (simp; done) | (simp; omega))))), by simp⟩
        case round =>
          obtain ⟨j, a', cap', ms', hj, rfl, hj', hi', hm', hq, hr, hb, hsz⟩ := hrel
          obtain ⟨q0, q1, q2, q3, e0, e1, e2, e3⟩ := hq
          obtain ⟨r0, r1, r2, r3, g0, g1, g2, g3⟩ := hr
          have hq : DBox (w.heap.size + 1 + 1) 1 n s (.slice a' ms'.length cap') wr := ⟨q0, q1, q2, q3, e0, e1, e2, e3⟩
          have hr : DBox (w.heap.size + 1) 0 0 ⟨#[]⟩ (.slice none 0 0) wr := ⟨r0, r1, r2, r3, g0, g1, g2, g3⟩
          have p3 := hq.lt
          have p2 := hr.lt
          by_cases hlt : j < ms.length
          · obtain ⟨b, off, k1, n1, s1, ds1, a1, cap1, ms1, rfl, hd, hi1, hin1, c0, c1, c2, c3⟩ := Dat.elem (HIN.out.below hb) HI.out j hlt
            obtain ⟨ht, hle⟩ := Dat.countL_le ds j _ hd
            simp only [Dat.count] at hle
            clear ht
            have HD := Lib.hid hd; clear hd; have HI1 := Lib.hid hi1; clear hi1; have HIN1 := Lib.hid hin1; clear hin1; have HJ' := Lib.hid hj'; clear hj'; have HI' := Lib.hid hi'; clear hi'; have HM' := Lib.hid hm'; clear hm'
            have HQ := Lib.hid hq; clear hq
            have HR := Lib.hid hr; clear hr
            go_wp2_with fail
            go_region_law (first
              | (go_simp; go_at_call 121; refine (IH.out k1 n1 s1 ds1 (List.mem_of_getElem? HD.out) k1 n1 s1 p q a1 cap1 ms1 _ (by omega) HI1.out (HIN1.out.below (by (repeat (first | with_reducible assumption | with_reducible exact Below.refl _ _ | with_reducible refine Below.drew ?_ | with_reducible refine belowDrewN ?_ _ | ((with_reducible refine Below.setCell ?_ ?_ _); rotate_left; focus (first | omega | (simp; done) | (simp; omega))) | ((with_reducible refine Below.alloc ?_ ?_ _); rotate_left; focus (first | omega | (simp; done) | (simp; omega)))))))).mono ?_; rintro e w1 ⟨a2, cap2, ms2, rfl, hi2, hm2, hb2⟩; obtain ⟨hc2, hf2⟩ := bcell hb2; have hz2 := hb2.size; (try simp only [World.size_alloc, World.size_setCell, World.size_drew, sizeDrewN] at hz2 hc2 hf2); have q3c : w1.cell? ⟨w.heap.size + 1 + 1, 3, none⟩ = some (.slice a' ms'.length cap') := (by simp (disch := omega) [hc2, q3, go_sem]); have p3c : w.heap.size + 1 + 1 < w1.heap.size := (by omega); (try simp only [Dat.k_mk, Dat.n_mk, Dat.s_mk, Dat.ds_mk, List.length_nil]))
              | (refine step_push (wr := wr) rfl _ _ 29 rfl 31 _ 4 56 Try.underlying29 infoDat rfl (by decide) (w.heap.size + 1 + 1 + 1) a' cap' ms' rfl HM'.out hsz (by (repeat (first | with_reducible assumption | with_reducible exact Below.refl _ _ | with_reducible refine Below.drew ?_ | with_reducible refine belowDrewN ?_ _ | ((with_reducible refine Below.setCell ?_ ?_ _); rotate_left; focus (first | omega | (simp; done) | (simp; omega))) | ((with_reducible refine Below.alloc ?_ ?_ _); rotate_left; focus (first | omega | (simp; done) | (simp; omega))) | ((with_reducible refine Below.trans ?_ (Below.mono hb2 ?_)); rotate_left; focus (first | omega | (simp; done) | (simp; omega)))))) _ (.ag [.c (.int .i64 k1), .c (.int .i64 n1), .c (.string (swS k1 p q s1)), .sl a2 cap2 4 31 ms2]) (by simp [M.cells, M.cellsL, intM_length]) rfl _ (Dat.mine hm2) (by simp) rfl (by have := HJ'.out; unfold maxLen; omega) (by have := HJ'.out; have := HL.out; omega) ?_; intro a3 cap3 w3 hm3 hb3 hz3 hfr3; have q3' : w3.cell? ⟨w.heap.size + 1 + 1, 3, none⟩ = some (.slice a' ms'.length cap') := (by rw [hb3.cell (by first | (simp; done) | (simp; omega))]; simp (disch := omega) [hc2, q3, go_sem]); have qf' : w3.frozen? ⟨w.heap.size + 1 + 1, 3, none⟩ = false := (by rw [hb3.frozen (by first | (simp; done) | (simp; omega))]; simp (disch := omega) [hf2, e3, go_sem])))
            all_goals
              have hbA : Below wr.heap.size wr w1 := by (repeat (first | with_reducible assumption | with_reducible exact Below.refl _ _ | with_reducible refine Below.drew ?_ | with_reducible refine belowDrewN ?_ _ | ((with_reducible refine Below.setCell ?_ ?_ _); rotate_left; focus (first | omega | (simp; done) | (simp; omega))) | ((with_reducible refine Below.alloc ?_ ?_ _); rotate_left; focus (first | omega | (simp; done) | (simp; omega))) | ((with_reducible refine Below.trans ?_ (Below.mono hb2 ?_)); rotate_left; focus (first | omega | (simp; done) | (simp; omega)))))
              have hq3 := (HQ.out.below hbA p3).below hb3 (by omega)
              have hr3 := (HR.out.below hbA p2).below hb3 (by omega)
              (try simp only [Dat.k_mk, Dat.n_mk, Dat.s_mk, Dat.ds_mk] at hi2)
              have hfin : Dat.IsL 31 (swL p q (ds.take (j + 1))) (ms' ++ [.ag [.c (.int .i64 k1), .c (.int .i64 n1), .c (.string (swS k1 p q s1)), .sl a2 cap2 4 31 ms2]]) := by
                rw [swL_take HD.out]; exact HI'.out.snoc ⟨_, _, _, rfl, hi2⟩
              have hjj := HJ'.out
              have HFIN := Lib.hid hfin; clear hfin; have HM3 := Lib.hid hm3; clear hm3; have HI2 := Lib.hid hi2; clear hi2; have HM2 := Lib.hid hm2; clear hm2; have HQ3 := Lib.hid hq3; clear hq3; have HR3 := Lib.hid hr3; clear hr3; have HBA := Lib.hid hbA; clear hbA
              go_wp2_with fail
              go_roundw
              case rel =>
                refine ⟨j + 1, a3, cap3, ms' ++ [.ag [.c (.int .i64 k1), .c (.int .i64 n1), .c (.string (swS k1 p q s1)), .sl a2 cap2 4 31 ms2]], by omega, by go_num, by simp [hjj], HFIN.out, ?_, ?_, ?_, ?_, ?_⟩
                · exact M.Mine.keep HM3.out (fun b hb1 hb2 => by simp (disch := (first | omega | (simp; omega))) only [heapSet])
                · have := HQ3.out.set3 (.slice a3 (ms'.length + 1) cap3); simpa [hjj] using this
                · exact HR3.out.far _ (by first | (simp; done) | (simp; omega))
                · (repeat (first | with_reducible assumption | with_reducible exact Below.refl _ _ | with_reducible refine Below.drew ?_ | with_reducible refine belowDrewN ?_ _ | ((with_reducible refine Below.setCell ?_ ?_ _); rotate_left; focus (first | omega | (simp; done) | (simp; omega))) | ((with_reducible refine Below.alloc ?_ ?_ _); rotate_left; focus (first | omega | (simp; done) | (simp; omega))) | ((with_reducible refine Below.trans ?_ (Below.mono hb2 ?_)); rotate_left; focus (first | omega | (simp; done) | (simp; omega))) | ((with_reducible refine Below.trans ?_ (Below.mono hb3 ?_)); rotate_left; focus (first | omega | (simp; done) | (simp; omega)))))
                · simp; omega
              case measure => simp [intOf]; omega
          · have HJ' := Lib.hid hj'; clear hj'
            have HQ := Lib.hid hq; clear hq
            have HR := Lib.hid hr; clear hr
            go_wp2_with fail
            refine bodyPost_ret (v := .agg #[.int .i64 1, .int .i64 n, .string s, .slice a' ms'.length cap']) (by simp [results, Try.results121, go_sem, q0, q1, q2, q3, r0, r1, r2, r3, HJ'.out]) rfl ?_
            have hk2 : j = ms.length := by omega
            subst hk2
            refine ⟨a', cap', ms', rfl, ?_, ?_, ?_⟩
            · rw [HL.out, List.take_length] at hi'
              exact hi'
            · (exact M.Mine.mono (M.Mine.keep hm' (fun b hb1 hb2 => by (try simp at hb1); simp (disch := (first | omega | (simp; omega))) only [heapSet, heapNew, heapDrew, heapDrewN])) (by first | omega | (simp; done) | (simp; omega)))
            · (repeat (first | with_reducible assumption | with_reducible exact Below.refl _ _ | with_reducible refine Below.drew ?_ | with_reducible refine belowDrewN ?_ _ | ((with_reducible refine Below.setCell ?_ ?_ _); rotate_left; focus (first | omega | (simp; done) | (simp; omega))) | ((with_reducible refine Below.alloc ?_ ?_ _); rotate_left; focus (first | omega | (simp; done) | (simp; omega))) | ((with_reducible refine Below.trans ?_ (Below.mono hb ?_)); rotate_left; focus (first | omega | (simp; done) | (simp; omega)))))
  · have hkb : (k == 1) = false := by simp [hk]
    rw [swS_other hk]
    have HK := Lib.hid hk; clear hk
    go_wp2_with fail
    go_loopw [42] (fun i wr => ∃ (j : Nat) (a' : Option Addr) (cap' : Nat) (ms' : List M), j ≤ ms.length ∧ i = .int .i64 j ∧ ms'.length = j ∧ Dat.IsL 31 (swL p q (ds.take j)) ms' ∧ (M.sl a' cap' 4 31 ms').Mine wr (w.heap.size + 1 + 1 + 1) ∧
        DBox (w.heap.size + 1 + 1) k n s (.slice a' ms'.length cap') wr ∧ DBox (w.heap.size + 1) 0 0 ⟨#[]⟩ (.slice none 0 0) wr ∧ Below w.heap.size w wr ∧ w.heap.size + 1 + 1 + 1 ≤ wr.heap.size) (fun i _ => ms.length - (intOf i).toNat)
    case atStart => exact ⟨0, none, 0, [], Nat.zero_le _, rfl, rfl, by simp [swL, Dat.IsL], M.Mine.nil _ _ _ _ (by decide), by constructor <;> simp [go_sem], by constructor <;> simp [go_sem], by (repeat (first | with_reducible assumption | with_reducible exact Below.refl _ _ | with_reducible refine Below.drew ?_ | with_reducible refine belowDrewN ?_ _ | ((with_reducible refine Below.setCell ?_ ?_ _); rotate_left; focus (first | omega | (simp; done) | (simp; omega))) | ((with_reducible refine Below.alloc ?_ ?_ _); rotate_left; focus (first | omega | (simp; done) | (simp; omega))))), by simp⟩
    case round =>
      obtain ⟨j, a', cap', ms', hj, rfl, hj', hi', hm', hq, hr, hb, hsz⟩ := hrel
      obtain ⟨q0, q1, q2, q3, e0, e1, e2, e3⟩ := hq
      obtain ⟨r0, r1, r2, r3, g0, g1, g2, g3⟩ := hr
      have hq : DBox (w.heap.size + 1 + 1) k n s (.slice a' ms'.length cap') wr := ⟨q0, q1, q2, q3, e0, e1, e2, e3⟩
      have hr : DBox (w.heap.size + 1) 0 0 ⟨#[]⟩ (.slice none 0 0) wr := ⟨r0, r1, r2, r3, g0, g1, g2, g3⟩
      have p3 := hq.lt
      have p2 := hr.lt
      by_cases hlt : j < ms.length
      · obtain ⟨b, off, k1, n1, s1, ds1, a1, cap1, ms1, rfl, hd, hi1, hin1, c0, c1, c2, c3⟩ := Dat.elem (HIN.out.below hb) HI.out j hlt
        obtain ⟨ht, hle⟩ := Dat.countL_le ds j _ hd
        simp only [Dat.count] at hle
        clear ht
        have HD := Lib.hid hd; clear hd; have HI1 := Lib.hid hi1; clear hi1; have HIN1 := Lib.hid hin1; clear hin1; have HJ' := Lib.hid hj'; clear hj'; have HI' := Lib.hid hi'; clear hi'; have HM' := Lib.hid hm'; clear hm'
        have HQ := Lib.hid hq; clear hq
        have HR := Lib.hid hr; clear hr
        go_wp2_with fail
        go_region_law (first
          | (go_simp; go_at_call 121; refine (IH.out k1 n1 s1 ds1 (List.mem_of_getElem? HD.out) k1 n1 s1 p q a1 cap1 ms1 _ (by omega) HI1.out (HIN1.out.below (by (repeat (first | with_reducible assumption | with_reducible exact Below.refl _ _ | with_reducible refine Below.drew ?_ | with_reducible refine belowDrewN ?_ _ | ((with_reducible refine Below.setCell ?_ ?_ _); rotate_left; focus (first | omega | (simp; done) | (simp; omega))) | ((with_reducible refine Below.alloc ?_ ?_ _); rotate_left; focus (first | omega | (simp; done) | (simp; omega)))))))).mono ?_; rintro e w1 ⟨a2, cap2, ms2, rfl, hi2, hm2, hb2⟩; obtain ⟨hc2, hf2⟩ := bcell hb2; have hz2 := hb2.size; (try simp only [World.size_alloc, World.size_setCell, World.size_drew, sizeDrewN] at hz2 hc2 hf2); have q3c : w1.cell? ⟨w.heap.size + 1 + 1, 3, none⟩ = some (.slice a' ms'.length cap') := (by simp (disch := omega) [hc2, q3, go_sem]); have p3c : w.heap.size + 1 + 1 < w1.heap.size := (by omega); (try simp only [Dat.k_mk, Dat.n_mk, Dat.s_mk, Dat.ds_mk, List.length_nil]))
          | (refine step_push (wr := wr) rfl _ _ 29 rfl 31 _ 4 56 Try.underlying29 infoDat rfl (by decide) (w.heap.size + 1 + 1 + 1) a' cap' ms' rfl HM'.out hsz (by (repeat (first | with_reducible assumption | with_reducible exact Below.refl _ _ | with_reducible refine Below.drew ?_ | with_reducible refine belowDrewN ?_ _ | ((with_reducible refine Below.setCell ?_ ?_ _); rotate_left; focus (first | omega | (simp; done) | (simp; omega))) | ((with_reducible refine Below.alloc ?_ ?_ _); rotate_left; focus (first | omega | (simp; done) | (simp; omega))) | ((with_reducible refine Below.trans ?_ (Below.mono hb2 ?_)); rotate_left; focus (first | omega | (simp; done) | (simp; omega)))))) _ (.ag [.c (.int .i64 k1), .c (.int .i64 n1), .c (.string (swS k1 p q s1)), .sl a2 cap2 4 31 ms2]) (by simp [M.cells, M.cellsL, intM_length]) rfl _ (Dat.mine hm2) (by simp) rfl (by have := HJ'.out; unfold maxLen; omega) (by have := HJ'.out; have := HL.out; omega) ?_; intro a3 cap3 w3 hm3 hb3 hz3 hfr3; have q3' : w3.cell? ⟨w.heap.size + 1 + 1, 3, none⟩ = some (.slice a' ms'.length cap') := (by rw [hb3.cell (by first | (simp; done) | (simp; omega))]; simp (disch := omega) [hc2, q3, go_sem]); have qf' : w3.frozen? ⟨w.heap.size + 1 + 1, 3, none⟩ = false := (by rw [hb3.frozen (by first | (simp; done) | (simp; omega))]; simp (disch := omega) [hf2, e3, go_sem])))
        all_goals
          have hbA : Below wr.heap.size wr w1 := by (repeat (first | with_reducible assumption | with_reducible exact Below.refl _ _ | with_reducible refine Below.drew ?_ | with_reducible refine belowDrewN ?_ _ | ((with_reducible refine Below.setCell ?_ ?_ _); rotate_left; focus (first | omega | (simp; done) | (simp; omega))) | ((with_reducible refine Below.alloc ?_ ?_ _); rotate_left; focus (first | omega | (simp; done) | (simp; omega))) | ((with_reducible refine Below.trans ?_ (Below.mono hb2 ?_)); rotate_left; focus (first | omega | (simp; done) | (simp; omega)))))
          have hq3 := (HQ.out.below hbA p3).below hb3 (by omega)
          have hr3 := (HR.out.below hbA p2).below hb3 (by omega)
          (try simp only [Dat.k_mk, Dat.n_mk, Dat.s_mk, Dat.ds_mk] at hi2)
          have hfin : Dat.IsL 31 (swL p q (ds.take (j + 1))) (ms' ++ [.ag [.c (.int .i64 k1), .c (.int .i64 n1), .c (.string (swS k1 p q s1)), .sl a2 cap2 4 31 ms2]]) := by
            rw [swL_take HD.out]; exact HI'.out.snoc ⟨_, _, _, rfl, hi2⟩
          have hjj := HJ'.out
          have HFIN := Lib.hid hfin; clear hfin; have HM3 := Lib.hid hm3; clear hm3; have HI2 := Lib.hid hi2; clear hi2; have HM2 := Lib.hid hm2; clear hm2; have HQ3 := Lib.hid hq3; clear hq3; have HR3 := Lib.hid hr3; clear hr3; have HBA := Lib.hid hbA; clear hbA
          go_wp2_with fail
          go_roundw
          case rel =>
            refine ⟨j + 1, a3, cap3, ms' ++ [.ag [.c (.int .i64 k1), .c (.int .i64 n1), .c (.string (swS k1 p q s1)), .sl a2 cap2 4 31 ms2]], by omega, by go_num, by simp [hjj], HFIN.out, ?_, ?_, ?_, ?_, ?_⟩
            · exact M.Mine.keep HM3.out (fun b hb1 hb2 => by simp (disch := (first | omega | (simp; omega))) only [heapSet])
            · have := HQ3.out.set3 (.slice a3 (ms'.length + 1) cap3); simpa [hjj] using this
            · exact HR3.out.far _ (by first | (simp; done) | (simp; omega))
            · (repeat (first | with_reducible assumption | with_reducible exact Below.refl _ _ | with_reducible refine Below.drew ?_ | with_reducible refine belowDrewN ?_ _ | ((with_reducible refine Below.setCell ?_ ?_ _); rotate_left; focus (first | omega | (simp; done) | (simp; omega))) | ((with_reducible refine Below.alloc ?_ ?_ _); rotate_left; focus (first | omega | (simp; done) | (simp; omega))) | ((with_reducible refine Below.trans ?_ (Below.mono hb2 ?_)); rotate_left; focus (first | omega | (simp; done) | (simp; omega))) | ((with_reducible refine Below.trans ?_ (Below.mono hb3 ?_)); rotate_left; focus (first | omega | (simp; done) | (simp; omega)))))
            · simp; omega
          case measure => simp [intOf]; omega
      · have HJ' := Lib.hid hj'; clear hj'
        have HQ := Lib.hid hq; clear hq
        have HR := Lib.hid hr; clear hr
        go_wp2_with fail
        refine bodyPost_ret (v := .agg #[.int .i64 k, .int .i64 n, .string s, .slice a' ms'.length cap']) (by simp [results, Try.results121, go_sem, q0, q1, q2, q3, r0, r1, r2, r3, HJ'.out]) rfl ?_
        have hk2 : j = ms.length := by omega
        subst hk2
        refine ⟨a', cap', ms', rfl, ?_, ?_, ?_⟩
        · rw [HL.out, List.take_length] at hi'
          exact hi'
        · (exact M.Mine.mono (M.Mine.keep hm' (fun b hb1 hb2 => by (try simp at hb1); simp (disch := (first | omega | (simp; omega))) only [heapSet, heapNew, heapDrew, heapDrewN])) (by first | omega | (simp; done) | (simp; omega)))
        · (repeat (first | with_reducible assumption | with_reducible exact Below.refl _ _ | with_reducible refine Below.drew ?_ | with_reducible refine belowDrewN ?_ _ | ((with_reducible refine Below.setCell ?_ ?_ _); rotate_left; focus (first | omega | (simp; done) | (simp; omega))) | ((with_reducible refine Below.alloc ?_ ?_ _); rotate_left; focus (first | omega | (simp; done) | (simp; omega))) | ((with_reducible refine Below.trans ?_ (Below.mono hb ?_)); rotate_left; focus (first | omega | (simp; done) | (simp; omega)))))
set_option maxHeartbeats 1000000 in
theorem sSwapSymbols_calls (k n : Int) (s p q : ByteArray) (ds : List Dat) (a : Option Addr) (cap : Nat) (ms : List M) (w : World) (hwf : (Dat.mk k n s ds).wf) (hsp : p.size ≤ 9223372036854775807) (hsq : q.size ≤ 9223372036854775807) (hB : Dat.countL ds ≤ 900000000) (hi : Dat.IsL 31 ds ms) (hin : (M.sl a cap 4 31 ms).In w) :
    Calls Try.prog 43 #[.agg #[.int .i64 k, .int .i64 n, .string s, .slice a ms.length cap], .string p, .string q] w (RetDat 31 (.mk k n (swSt (swOk k n s ds p q) k p q s) (swLt (swOk k n s ds p q) p q ds)) w) := by
  have hcap := hin.len
  have HI := Lib.hid hi; clear hi; have HIN := Lib.hid hin; clear hin; have HWF := Lib.hid hwf; clear hwf
  go_enter Try.func43, Try.ntmps43
  go_wp2_with fail
  refine (sIsDatum_calls k n s ds a cap ms _ HWF.out (by omega) HI.out (HIN.out.below (by (repeat (first | with_reducible assumption | with_reducible exact Below.refl _ _ | with_reducible refine Below.drew ?_ | with_reducible refine belowDrewN ?_ _ | ((with_reducible refine Below.setCell ?_ ?_ _); rotate_left; focus (first | omega | (simp; done) | (simp; omega))) | ((with_reducible refine Below.alloc ?_ ?_ _); rotate_left; focus (first | omega | (simp; done) | (simp; omega)))))))).mono ?_
  rintro e w1 ⟨rfl, hb1⟩
  obtain ⟨hc1, hf1⟩ := bcell hb1; have hz1 := hb1.size; (try simp only [World.size_alloc, World.size_setCell, World.size_drew, sizeDrewN] at hz1 hc1 hf1)
  have p0 : w.heap.size < w1.heap.size := by omega
  have p1 : w.heap.size + 1 < w1.heap.size := by omega
  have hq : DBox w.heap.size k n s (.slice a ms.length cap) w1 := by constructor <;> first | (simp (disch := omega) [hc1, hf1, go_sem]; done) | (simp (disch := omega) [hc1, hf1, go_sem]; rfl)
  have hr : DBox (w.heap.size + 1) 0 0 ⟨#[]⟩ (.slice none 0 0) w1 := by constructor <;> first | (simp (disch := omega) [hc1, hf1, go_sem]; done) | (simp (disch := omega) [hc1, hf1, go_sem]; rfl)
  obtain ⟨q0, q1, q2, q3, e0, e1, e2, e3⟩ := hq
  obtain ⟨r0, r1, r2, r3, g0, g1, g2, g3⟩ := hr
  clear hc1 hf1
  cases hv : isDatB k n s ds with
  | false =>
    have hno : swOk k n s ds p q = false := by unfold swOk; rw [hv]; rfl
    have HV := Lib.hid hv; clear hv; have HNO := Lib.hid hno; clear hno
    go_wp2_with fail
    refine (l1Copy_calls ds k n s a cap ms _ (by omega) HI.out (HIN.out.below (by (repeat (first | with_reducible assumption | with_reducible exact Below.refl _ _ | with_reducible refine Below.drew ?_ | with_reducible refine belowDrewN ?_ _ | ((with_reducible refine Below.setCell ?_ ?_ _); rotate_left; focus (first | omega | (simp; done) | (simp; omega))) | ((with_reducible refine Below.alloc ?_ ?_ _); rotate_left; focus (first | omega | (simp; done) | (simp; omega))) | ((with_reducible refine Below.trans ?_ (Below.mono hb1 ?_)); rotate_left; focus (first | omega | (simp; done) | (simp; omega)))))))).mono ?_
    rintro e w2 ⟨a2, cap2, ms2, rfl, hi2, hm2, hb2⟩
    obtain ⟨hc2, hf2⟩ := bcell hb2; have hz2 := hb2.size; (try simp only [World.size_alloc, World.size_setCell, World.size_drew, sizeDrewN] at hz2 hc2 hf2)
    simp only [Dat.k_mk, Dat.n_mk, Dat.s_mk, Dat.ds_mk] at hi2 ⊢
    have hr : DBox (w.heap.size + 1) 0 0 ⟨#[]⟩ (.slice none 0 0) w2 := by constructor <;> simp (disch := omega) [hc2, hf2, r0, r1, r2, r3, g0, g1, g2, g3]
    obtain ⟨s0, s1, s2, s3, h0, h1, h2, h3⟩ := hr
    have HI2 := Lib.hid hi2; clear hi2; have HM2 := Lib.hid hm2; clear hm2
    go_wp2_with fail
    refine bodyPost_ret (v := .agg #[.int .i64 k, .int .i64 n, .string s, .slice a2 ms2.length cap2]) (by simp [results, Try.results43, go_sem, s0, s1, s2, s3]) rfl ?_
    refine ⟨a2, cap2, ms2, by rw [HNO.out]; rfl, by rw [HNO.out]; exact HI2.out, ?_, ?_⟩
    · (exact M.Mine.mono (M.Mine.keep HM2.out (fun b hb1 hb2 => by (try simp at hb1); simp (disch := (first | omega | (simp; omega))) only [heapSet, heapNew, heapDrew, heapDrewN])) (by first | omega | (simp; done) | (simp; omega)))
    · (repeat (first | with_reducible assumption | with_reducible exact Below.refl _ _ | with_reducible refine Below.drew ?_ | with_reducible refine belowDrewN ?_ _ | ((with_reducible refine Below.setCell ?_ ?_ _); rotate_left; focus (first | omega | (simp; done) | (simp; omega))) | ((with_reducible refine Below.alloc ?_ ?_ _); rotate_left; focus (first | omega | (simp; done) | (simp; omega))) | ((with_reducible refine Below.trans ?_ (Below.mono hb1 ?_)); rotate_left; focus (first | omega | (simp; done) | (simp; omega))) | ((with_reducible refine Below.trans ?_ (Below.mono hb2 ?_)); rotate_left; focus (first | omega | (simp; done) | (simp; omega)))))
  | true =>
    go_wp2_with fail
    refine (sIsSymbol_calls p _ hsp).mono ?_
    rintro e w' ⟨rfl, rfl⟩
    cases hp : isSymB p with
    | false =>
      have hno : swOk k n s ds p q = false := by unfold swOk; rw [hv, hp]; rfl
      have HP := Lib.hid hp; clear hp; have HV := Lib.hid hv; clear hv; have HNO := Lib.hid hno; clear hno
      go_wp2_with fail
      refine (l1Copy_calls ds k n s a cap ms _ (by omega) HI.out (HIN.out.below (by (repeat (first | with_reducible assumption | with_reducible exact Below.refl _ _ | with_reducible refine Below.drew ?_ | with_reducible refine belowDrewN ?_ _ | ((with_reducible refine Below.setCell ?_ ?_ _); rotate_left; focus (first | omega | (simp; done) | (simp; omega))) | ((with_reducible refine Below.alloc ?_ ?_ _); rotate_left; focus (first | omega | (simp; done) | (simp; omega))) | ((with_reducible refine Below.trans ?_ (Below.mono hb1 ?_)); rotate_left; focus (first | omega | (simp; done) | (simp; omega)))))))).mono ?_
      rintro e w2 ⟨a2, cap2, ms2, rfl, hi2, hm2, hb2⟩
      obtain ⟨hc2, hf2⟩ := bcell hb2; have hz2 := hb2.size; (try simp only [World.size_alloc, World.size_setCell, World.size_drew, sizeDrewN] at hz2 hc2 hf2)
      simp only [Dat.k_mk, Dat.n_mk, Dat.s_mk, Dat.ds_mk] at hi2 ⊢
      have hr : DBox (w.heap.size + 1) 0 0 ⟨#[]⟩ (.slice none 0 0) w2 := by constructor <;> simp (disch := omega) [hc2, hf2, r0, r1, r2, r3, g0, g1, g2, g3]
      obtain ⟨s0, s1, s2, s3, h0, h1, h2, h3⟩ := hr
      have HI2 := Lib.hid hi2; clear hi2; have HM2 := Lib.hid hm2; clear hm2
      go_wp2_with fail
      refine bodyPost_ret (v := .agg #[.int .i64 k, .int .i64 n, .string s, .slice a2 ms2.length cap2]) (by simp [results, Try.results43, go_sem, s0, s1, s2, s3]) rfl ?_
      refine ⟨a2, cap2, ms2, by rw [HNO.out]; rfl, by rw [HNO.out]; exact HI2.out, ?_, ?_⟩
      · (exact M.Mine.mono (M.Mine.keep HM2.out (fun b hb1 hb2 => by (try simp at hb1); simp (disch := (first | omega | (simp; omega))) only [heapSet, heapNew, heapDrew, heapDrewN])) (by first | omega | (simp; done) | (simp; omega)))
      · (repeat (first | with_reducible assumption | with_reducible exact Below.refl _ _ | with_reducible refine Below.drew ?_ | with_reducible refine belowDrewN ?_ _ | ((with_reducible refine Below.setCell ?_ ?_ _); rotate_left; focus (first | omega | (simp; done) | (simp; omega))) | ((with_reducible refine Below.alloc ?_ ?_ _); rotate_left; focus (first | omega | (simp; done) | (simp; omega))) | ((with_reducible refine Below.trans ?_ (Below.mono hb1 ?_)); rotate_left; focus (first | omega | (simp; done) | (simp; omega))) | ((with_reducible refine Below.trans ?_ (Below.mono hb2 ?_)); rotate_left; focus (first | omega | (simp; done) | (simp; omega)))))
    | true =>
      go_wp2_with fail
      refine (sIsSymbol_calls q _ hsq).mono ?_
      rintro e w' ⟨rfl, rfl⟩
      cases hq : isSymB q with
      | false =>
        have hno : swOk k n s ds p q = false := by unfold swOk; rw [hv, hp, hq]; rfl
        have HP := Lib.hid hp; clear hp; have HQ := Lib.hid hq; clear hq; have HV := Lib.hid hv; clear hv; have HNO := Lib.hid hno; clear hno
        go_wp2_with fail
        refine (l1Copy_calls ds k n s a cap ms _ (by omega) HI.out (HIN.out.below (by (repeat (first | with_reducible assumption | with_reducible exact Below.refl _ _ | with_reducible refine Below.drew ?_ | with_reducible refine belowDrewN ?_ _ | ((with_reducible refine Below.setCell ?_ ?_ _); rotate_left; focus (first | omega | (simp; done) | (simp; omega))) | ((with_reducible refine Below.alloc ?_ ?_ _); rotate_left; focus (first | omega | (simp; done) | (simp; omega))) | ((with_reducible refine Below.trans ?_ (Below.mono hb1 ?_)); rotate_left; focus (first | omega | (simp; done) | (simp; omega)))))))).mono ?_
        rintro e w2 ⟨a2, cap2, ms2, rfl, hi2, hm2, hb2⟩
        obtain ⟨hc2, hf2⟩ := bcell hb2; have hz2 := hb2.size; (try simp only [World.size_alloc, World.size_setCell, World.size_drew, sizeDrewN] at hz2 hc2 hf2)
        simp only [Dat.k_mk, Dat.n_mk, Dat.s_mk, Dat.ds_mk] at hi2 ⊢
        have hr : DBox (w.heap.size + 1) 0 0 ⟨#[]⟩ (.slice none 0 0) w2 := by constructor <;> simp (disch := omega) [hc2, hf2, r0, r1, r2, r3, g0, g1, g2, g3]
        obtain ⟨s0, s1, s2, s3, h0, h1, h2, h3⟩ := hr
        have HI2 := Lib.hid hi2; clear hi2; have HM2 := Lib.hid hm2; clear hm2
        go_wp2_with fail
        refine bodyPost_ret (v := .agg #[.int .i64 k, .int .i64 n, .string s, .slice a2 ms2.length cap2]) (by simp [results, Try.results43, go_sem, s0, s1, s2, s3]) rfl ?_
        refine ⟨a2, cap2, ms2, by rw [HNO.out]; rfl, by rw [HNO.out]; exact HI2.out, ?_, ?_⟩
        · (exact M.Mine.mono (M.Mine.keep HM2.out (fun b hb1 hb2 => by (try simp at hb1); simp (disch := (first | omega | (simp; omega))) only [heapSet, heapNew, heapDrew, heapDrewN])) (by first | omega | (simp; done) | (simp; omega)))
        · (repeat (first | with_reducible assumption | with_reducible exact Below.refl _ _ | with_reducible refine Below.drew ?_ | with_reducible refine belowDrewN ?_ _ | ((with_reducible refine Below.setCell ?_ ?_ _); rotate_left; focus (first | omega | (simp; done) | (simp; omega))) | ((with_reducible refine Below.alloc ?_ ?_ _); rotate_left; focus (first | omega | (simp; done) | (simp; omega))) | ((with_reducible refine Below.trans ?_ (Below.mono hb1 ?_)); rotate_left; focus (first | omega | (simp; done) | (simp; omega))) | ((with_reducible refine Below.trans ?_ (Below.mono hb2 ?_)); rotate_left; focus (first | omega | (simp; done) | (simp; omega)))))
      | true =>
        have hno : swOk k n s ds p q = true := by unfold swOk; rw [hv, hp, hq]; rfl
        have HP := Lib.hid hp; clear hp; have HQ := Lib.hid hq; clear hq; have HV := Lib.hid hv; clear hv; have HNO := Lib.hid hno; clear hno
        go_wp2_with fail
        refine (l1Swap_calls ds k n s p q a cap ms _ (by omega) HI.out (HIN.out.below (by (repeat (first | with_reducible assumption | with_reducible exact Below.refl _ _ | with_reducible refine Below.drew ?_ | with_reducible refine belowDrewN ?_ _ | ((with_reducible refine Below.setCell ?_ ?_ _); rotate_left; focus (first | omega | (simp; done) | (simp; omega))) | ((with_reducible refine Below.alloc ?_ ?_ _); rotate_left; focus (first | omega | (simp; done) | (simp; omega))) | ((with_reducible refine Below.trans ?_ (Below.mono hb1 ?_)); rotate_left; focus (first | omega | (simp; done) | (simp; omega)))))))).mono ?_
        rintro e w2 ⟨a2, cap2, ms2, rfl, hi2, hm2, hb2⟩
        obtain ⟨hc2, hf2⟩ := bcell hb2; have hz2 := hb2.size; (try simp only [World.size_alloc, World.size_setCell, World.size_drew, sizeDrewN] at hz2 hc2 hf2)
        simp only [Dat.k_mk, Dat.n_mk, Dat.s_mk, Dat.ds_mk] at hi2 ⊢
        have hr : DBox (w.heap.size + 1) 0 0 ⟨#[]⟩ (.slice none 0 0) w2 := by constructor <;> simp (disch := omega) [hc2, hf2, r0, r1, r2, r3, g0, g1, g2, g3]
        obtain ⟨s0, s1, s2, s3, h0, h1, h2, h3⟩ := hr
        have HI2 := Lib.hid hi2; clear hi2; have HM2 := Lib.hid hm2; clear hm2
        go_wp2_with fail
        refine bodyPost_ret (v := .agg #[.int .i64 k, .int .i64 n, .string (swS k p q s), .slice a2 ms2.length cap2]) (by simp [results, Try.results43, go_sem, s0, s1, s2, s3]) rfl ?_
        refine ⟨a2, cap2, ms2, by rw [HNO.out]; rfl, by rw [HNO.out]; exact HI2.out, ?_, ?_⟩
        · (exact M.Mine.mono (M.Mine.keep HM2.out (fun b hb1 hb2 => by (try simp at hb1); simp (disch := (first | omega | (simp; omega))) only [heapSet, heapNew, heapDrew, heapDrewN])) (by first | omega | (simp; done) | (simp; omega)))
        · (repeat (first | with_reducible assumption | with_reducible exact Below.refl _ _ | with_reducible refine Below.drew ?_ | with_reducible refine belowDrewN ?_ _ | ((with_reducible refine Below.setCell ?_ ?_ _); rotate_left; focus (first | omega | (simp; done) | (simp; omega))) | ((with_reducible refine Below.alloc ?_ ?_ _); rotate_left; focus (first | omega | (simp; done) | (simp; omega))) | ((with_reducible refine Below.trans ?_ (Below.mono hb1 ?_)); rotate_left; focus (first | omega | (simp; done) | (simp; omega))) | ((with_reducible refine Below.trans ?_ (Below.mono hb2 ?_)); rotate_left; focus (first | omega | (simp; done) | (simp; omega)))))
end Go.Proofs.Ytkofpfcbjfkdpaa
