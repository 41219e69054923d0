/-
  Walks: two symbols exchanged. No condition. (printed by wip/tools/mkp3.py)
-/
import Derived.Test.YtoflfamfhpijcaaC1
import Derived.Test.YtoflfamfhpijcaaN6
set_option linter.unusedVariables false
set_option linter.unusedSimpArgs false
set_option maxRecDepth 100000
namespace Go.Proofs.Ytoflfamfhpijcaa
open Go.RowKit

open Classical in
noncomputable def swS (k : Int) (p q s : ByteArray) : ByteArray := if k = 1 then (if s = p then q else if s = q then p else s) else s
theorem swS_p (p q : ByteArray) : swS 1 p q p = q := by simp [swS]
theorem swS_q {p q : ByteArray} (h : ¬ q = p) : swS 1 p q q = p := by simp [swS, h]
theorem swS_no {p q s : ByteArray} (h : ¬ s = p) (h2 : ¬ s = q) (k : Int) : swS k p q s = s := by simp [swS, h, h2]
theorem swS_other {k : Int} (h : ¬ k = 1) (p q s : ByteArray) : swS k p q s = s := by simp [swS, h]
mutual
noncomputable def swD (p q : ByteArray) : Dat → Dat
  | .mk k n s ds => .mk k n (swS k p q s) (swL p q ds)
noncomputable def swL (p q : ByteArray) : List Dat → List Dat
  | [] => []
  | d :: r => swD p q d :: swL p q r
end
theorem swD_mk (p q : ByteArray) (k n : Int) (s : ByteArray) (ds : List Dat) : swD p q (.mk k n s ds) = .mk k n (swS k p q s) (swL p q ds) := by rw [swD]
theorem swL_append (p q : ByteArray) : ∀ (ds es : List Dat), swL p q (ds ++ es) = swL p q ds ++ swL p q es
  | [], es => by simp [swL]
  | d :: r, es => by simp only [List.cons_append, swL]; rw [swL_append p q r es]
theorem swL_take {p q : ByteArray} {ds : List Dat} {j : Nat} {k n : Int} {s : ByteArray} {es : List Dat} (h : ds[j]? = some (.mk k n s es)) : swL p q (ds.take (j + 1)) = swL p q (ds.take j) ++ [.mk k n (swS k p q s) (swL p q es)] := by
  rw [take_snoc h, swL_append]; simp [swL, swD]
def SwDs (ds : List Dat) : Prop := ∀ (k n : Int) (s p q : ByteArray) (a : Option Addr) (cap : Nat) (ms : List M) (w : World), Dat.countL ds ≤ 1000000000 → Dat.IsL 31 ds ms → (M.sl a cap 4 31 ms).In w →
    Calls Try.prog 65 #[.agg #[.int .i64 k, .int .i64 n, .string s, .slice a ms.length cap], .string p, .string q] w (RetDat 31 (.mk k n (swS k p q s) (swL p q ds)) w)
set_option maxHeartbeats 2000000 in
theorem swapped_calls : ∀ ds, SwDs ds := by
  refine Dat.inductL fun ds ih => ?_
  intro k n s p q a cap ms w hB hi hin
  have hl := hi.length
  have hcap := hin.len
  have hdl := Dat.length_le ds
  have IH := Lib.hid ih; clear ih; have HIN := Lib.hid hin; clear hin; have HI := Lib.hid hi; clear hi; have HL := Lib.hid hl; clear hl
  go_enter Try.func65, Try.ntmps65
  by_cases hk : k = 1
  · subst hk
    by_cases hsp : s = p
    · have hps := hsp.symm
      clear hsp
      subst hps
      rw [swS_p]
      go_wp2_with fail
      go_loopw [7, 28] (fun t i wr => ∃ (j : Nat) (a' : Option Addr) (cap' : Nat) (ms' : List M), j ≤ ms.length ∧ i = .int .i64 j ∧ t = .slice a' ms'.length cap' ∧ ms'.length = j ∧ Dat.IsL 31 (swL p q (ds.take j)) ms' ∧ (M.sl a' cap' 4 31 ms').Mine wr (w.heap.size + 1 + 1) ∧
          (wr.cell? ⟨w.heap.size, 0, none⟩ = some (.int .i64 1) ∧ wr.cell? ⟨w.heap.size, 1, none⟩ = some (.int .i64 n) ∧ wr.cell? ⟨w.heap.size, 2, none⟩ = some (.string q) ∧ wr.cell? ⟨w.heap.size, 3, none⟩ = some (.slice a ms.length cap) ∧ wr.frozen? ⟨w.heap.size, 3, none⟩ = false) ∧
          (wr.cell? ⟨w.heap.size + 1, 0, none⟩ = some (.int .i64 0) ∧ wr.cell? ⟨w.heap.size + 1, 1, none⟩ = some (.int .i64 0) ∧ wr.cell? ⟨w.heap.size + 1, 2, none⟩ = some (.string ⟨#[]⟩) ∧ wr.cell? ⟨w.heap.size + 1, 3, none⟩ = some (.slice none 0 0) ∧ wr.frozen? ⟨w.heap.size + 1, 0, none⟩ = false ∧ wr.frozen? ⟨w.heap.size + 1, 1, none⟩ = false ∧ wr.frozen? ⟨w.heap.size + 1, 2, none⟩ = false ∧ wr.frozen? ⟨w.heap.size + 1, 3, none⟩ = false) ∧
          Below w.heap.size w wr ∧ w.heap.size + 1 + 1 ≤ wr.heap.size) (fun _ i _ => ms.length - (intOf i).toNat)
      case atStart => exact ⟨0, none, 0, [], Nat.zero_le _, rfl, rfl, rfl, by simp [swL, Dat.IsL], M.Mine.nil _ _ _ _ (by decide), by simp [go_sem], by simp [go_sem], by (repeat (first | with_reducible assumption | with_reducible exact Below.refl _ _ | with_reducible refine Below.drew ?_ | with_reducible refine belowDrewN ?_ _ | ((with_reducible refine Below.setCell ?_ ?_ _); rotate_left; focus (first | omega | (simp; done) | (simp; omega))) | ((with_reducible refine Below.alloc ?_ ?_ _); rotate_left; focus (first | omega | (simp; done) | (simp; omega))))), by simp⟩
      case round =>
        obtain ⟨j, a', cap', ms', hj, rfl, rfl, hj', hi', hm', ⟨q0, q1, q2, q3, qf⟩, ⟨r0, r1, r2, r3, g0, g1, g2, g3⟩, hb, hsz⟩ := hrel
        have p2 : w.heap.size < wr.heap.size := by omega
        have p3 : w.heap.size + 1 < wr.heap.size := by omega
        by_cases hlt : j < ms.length
        · obtain ⟨bb, off, k1, n1, s1, ds1, a1, cap1, ms1, rfl, hd, hi1, hin1, c0, c1, c2, c3⟩ := Dat.elem (HIN.out.below hb) HI.out j hlt
          obtain ⟨ht, hle⟩ := Dat.countL_le ds j _ hd
          simp only [Dat.count] at hle
          clear ht
          have HD := Lib.hid hd; clear hd; have HI1 := Lib.hid hi1; clear hi1; have HIN1 := Lib.hid hin1; clear hin1; have HJ' := Lib.hid hj'; clear hj'; have HI' := Lib.hid hi'; clear hi'; have HM' := Lib.hid hm'; clear hm'
          go_wp2_with fail
          refine (IH.out k1 n1 s1 ds1 (List.mem_of_getElem? HD.out) k1 n1 s1 p q a1 cap1 ms1 _ (by omega) HI1.out (HIN1.out.below (by (repeat (first | with_reducible assumption | with_reducible exact Below.refl _ _ | with_reducible refine Below.drew ?_ | with_reducible refine belowDrewN ?_ _ | ((with_reducible refine Below.setCell ?_ ?_ _); rotate_left; focus (first | omega | (simp; done) | (simp; omega))) | ((with_reducible refine Below.alloc ?_ ?_ _); rotate_left; focus (first | omega | (simp; done) | (simp; omega)))))))).mono ?_
          rintro e w1 ⟨a2, cap2, ms2, rfl, hi2, hm2, hb2⟩
          obtain ⟨hc2, hf2⟩ := bcell hb2; have hz2 := hb2.size; (try simp only [World.size_alloc, World.size_setCell, World.size_drew, sizeDrewN] at hz2 hc2 hf2)
          simp only [Dat.k_mk, Dat.n_mk, Dat.s_mk, Dat.ds_mk] at hi2 ⊢
          go_wp2_with (at_builtin; refine wpList_push (wr := wr) rfl _ _ 29 rfl 31 _ 4 56 Try.underlying29 infoDat rfl (by decide) (w.heap.size + 1 + 1) a' cap' ms' rfl HM'.out hsz ?below _ (.ag [.c (.int .i64 k1), .c (.int .i64 n1), .c (.string (swS k1 p q s1)), .sl a2 cap2 4 31 ms2]) rfl rfl _ (Dat.mine hm2) ?lo rfl ?max ?bytes ?_)
          case below => (repeat (first | with_reducible assumption | with_reducible exact Below.refl _ _ | with_reducible refine Below.drew ?_ | with_reducible refine belowDrewN ?_ _ | ((with_reducible refine Below.setCell ?_ ?_ _); rotate_left; focus (first | omega | (simp; done) | (simp; omega))) | ((with_reducible refine Below.alloc ?_ ?_ _); rotate_left; focus (first | omega | (simp; done) | (simp; omega))) | ((with_reducible refine Below.trans ?_ (Below.mono hb2 ?_)); rotate_left; focus (first | omega | (simp; done) | (simp; omega)))))
          case lo => simp
          case max => have := HJ'.out; unfold maxLen; omega
          case bytes => have := HJ'.out; have := HL.out; omega
          intro a3 cap3 w3 hm3 hb3 hz3 hfr3
          have hfin : Dat.IsL 31 (swL p q (ds.take (j + 1))) (ms' ++ [M.ag [.c (.int .i64 k1), .c (.int .i64 n1), .c (.string (swS k1 p q s1)), .sl a2 cap2 4 31 ms2]]) := by
            rw [swL_take HD.out]; exact HI'.out.snoc ⟨_, _, _, rfl, hi2⟩
          have hq3 : (w3.cell? ⟨w.heap.size, 0, none⟩ = some (.int .i64 1) ∧ w3.cell? ⟨w.heap.size, 1, none⟩ = some (.int .i64 n) ∧ w3.cell? ⟨w.heap.size, 2, none⟩ = some (.string q) ∧ w3.cell? ⟨w.heap.size, 3, none⟩ = some (.slice (some ⟨bb, off, none⟩) ms.length cap) ∧ w3.frozen? ⟨w.heap.size, 3, none⟩ = false) := by
            refine ⟨?_, ?_, ?_, ?_, ?_⟩ <;> first | (rw [hb3.cell (by first | (simp; done) | (simp; omega))]; simp (disch := omega) [hc2, q0, q1, q2, q3, go_sem]; done) | (rw [hb3.frozen (by first | (simp; done) | (simp; omega))]; simp (disch := omega) [hf2, qf, go_sem]; done)
          have hr3 : (w3.cell? ⟨w.heap.size + 1, 0, none⟩ = some (.int .i64 0) ∧ w3.cell? ⟨w.heap.size + 1, 1, none⟩ = some (.int .i64 0) ∧ w3.cell? ⟨w.heap.size + 1, 2, none⟩ = some (.string ⟨#[]⟩) ∧ w3.cell? ⟨w.heap.size + 1, 3, none⟩ = some (.slice none 0 0) ∧ w3.frozen? ⟨w.heap.size + 1, 0, none⟩ = false ∧ w3.frozen? ⟨w.heap.size + 1, 1, none⟩ = false ∧ w3.frozen? ⟨w.heap.size + 1, 2, none⟩ = false ∧ w3.frozen? ⟨w.heap.size + 1, 3, none⟩ = false) := by
            refine ⟨?_, ?_, ?_, ?_, ?_, ?_, ?_, ?_⟩ <;> first | (rw [hb3.cell (by first | (simp; done) | (simp; omega))]; simp (disch := omega) [hc2, r0, r1, r2, r3, go_sem]; done) | (rw [hb3.frozen (by first | (simp; done) | (simp; omega))]; simp (disch := omega) [hf2, g0, g1, g2, g3, go_sem]; done)
          have hbw : Below w.heap.size w w3 := by (repeat (first | with_reducible assumption | with_reducible exact Below.refl _ _ | with_reducible refine Below.drew ?_ | with_reducible refine belowDrewN ?_ _ | ((with_reducible refine Below.setCell ?_ ?_ _); rotate_left; focus (first | omega | (simp; done) | (simp; omega))) | ((with_reducible refine Below.alloc ?_ ?_ _); rotate_left; focus (first | omega | (simp; done) | (simp; omega))) | ((with_reducible refine Below.trans ?_ (Below.mono hb2 ?_)); rotate_left; focus (first | omega | (simp; done) | (simp; omega))) | ((with_reducible refine Below.trans ?_ (Below.mono hb3 ?_)); rotate_left; focus (first | omega | (simp; done) | (simp; omega)))))
          have HM3 := Lib.hid hm3; clear hm3; have HFIN := Lib.hid hfin; clear hfin; have HFR3 := Lib.hid hfr3; clear hfr3; have HQ3 := Lib.hid hq3; clear hq3; have HR3 := Lib.hid hr3; clear hr3; have HBW := Lib.hid hbw; clear hbw
          go_wp2_with fail
          go_roundw
          case rel => exact ⟨j + 1, a3, cap3, _, by omega, by go_num, by simp, by have := HJ'.out; simp; omega, HFIN.out, HM3.out, HQ3.out, HR3.out, HBW.out, by omega⟩
          case measure => simp [intOf]; omega
        · have hk2 : j = ms.length := by omega
          subst hk2
          have hfin : Dat.IsL 31 (swL p q ds) ms' := by rw [HL.out, List.take_length] at hi'; exact hi'
          have HFIN := Lib.hid hfin; clear hfin; have HM' := Lib.hid hm'; clear hm'; have HI' := Lib.hid hi'; clear hi'; have HJ' := Lib.hid hj'; clear hj'
          go_wp2_with fail
          refine bodyPost_ret (v := .agg #[.int .i64 1, .int .i64 n, .string q, .slice a' ms'.length cap']) (by simp [results, Try.results65, go_sem, q0, q1, q2, q3, r0, r1, r2, r3]) rfl ?_
          refine ⟨a', cap', ms', rfl, HFIN.out, ?_, ?_⟩
          · (exact M.Mine.mono (M.Mine.keep HM'.out (fun b hb1 hb2 => by (try simp at hb1); simp (disch := (first | omega | (simp; omega))) only [heapSet, heapNew, heapDrew, heapDrewN])) (by first | omega | (simp; done) | (simp; omega)))
          · (repeat (first | with_reducible assumption | with_reducible exact Below.refl _ _ | with_reducible refine Below.drew ?_ | with_reducible refine belowDrewN ?_ _ | ((with_reducible refine Below.setCell ?_ ?_ _); rotate_left; focus (first | omega | (simp; done) | (simp; omega))) | ((with_reducible refine Below.alloc ?_ ?_ _); rotate_left; focus (first | omega | (simp; done) | (simp; omega)))))
    · have hsb := ba_ne hsp
      by_cases hsq : s = q
      · have hqs := hsq.symm
        clear hsq
        subst hqs
        rw [swS_q hsp]
        have HSP := Lib.hid hsp; clear hsp
        go_wp2_with fail
        go_loopw [7, 28] (fun t i wr => ∃ (j : Nat) (a' : Option Addr) (cap' : Nat) (ms' : List M), j ≤ ms.length ∧ i = .int .i64 j ∧ t = .slice a' ms'.length cap' ∧ ms'.length = j ∧ Dat.IsL 31 (swL p q (ds.take j)) ms' ∧ (M.sl a' cap' 4 31 ms').Mine wr (w.heap.size + 1 + 1) ∧
            (wr.cell? ⟨w.heap.size, 0, none⟩ = some (.int .i64 1) ∧ wr.cell? ⟨w.heap.size, 1, none⟩ = some (.int .i64 n) ∧ wr.cell? ⟨w.heap.size, 2, none⟩ = some (.string p) ∧ wr.cell? ⟨w.heap.size, 3, none⟩ = some (.slice a ms.length cap) ∧ wr.frozen? ⟨w.heap.size, 3, none⟩ = false) ∧
            (wr.cell? ⟨w.heap.size + 1, 0, none⟩ = some (.int .i64 0) ∧ wr.cell? ⟨w.heap.size + 1, 1, none⟩ = some (.int .i64 0) ∧ wr.cell? ⟨w.heap.size + 1, 2, none⟩ = some (.string ⟨#[]⟩) ∧ wr.cell? ⟨w.heap.size + 1, 3, none⟩ = some (.slice none 0 0) ∧ wr.frozen? ⟨w.heap.size + 1, 0, none⟩ = false ∧ wr.frozen? ⟨w.heap.size + 1, 1, none⟩ = false ∧ wr.frozen? ⟨w.heap.size + 1, 2, none⟩ = false ∧ wr.frozen? ⟨w.heap.size + 1, 3, none⟩ = false) ∧
            Below w.heap.size w wr ∧ w.heap.size + 1 + 1 ≤ wr.heap.size) (fun _ i _ => ms.length - (intOf i).toNat)
        case atStart => exact ⟨0, none, 0, [], Nat.zero_le _, rfl, rfl, rfl, by simp [swL, Dat.IsL], M.Mine.nil _ _ _ _ (by decide), by simp [go_sem], by simp [go_sem], by (repeat (first | with_reducible assumption | with_reducible exact Below.refl _ _ | with_reducible refine Below.drew ?_ | with_reducible refine belowDrewN ?_ _ | ((with_reducible refine Below.setCell ?_ ?_ _); rotate_left; focus (first | omega | (simp; done) | (simp; omega))) | ((with_reducible refine Below.alloc ?_ ?_ _); rotate_left; focus (first | omega | (simp; done) | (simp; omega))))), by simp⟩
        case round =>
          obtain ⟨j, a', cap', ms', hj, rfl, rfl, hj', hi', hm', ⟨q0, q1, q2, q3, qf⟩, ⟨r0, r1, r2, r3, g0, g1, g2, g3⟩, hb, hsz⟩ := hrel
          have p2 : w.heap.size < wr.heap.size := by omega
          have p3 : w.heap.size + 1 < wr.heap.size := by omega
          by_cases hlt : j < ms.length
          · obtain ⟨bb, off, k1, n1, s1, ds1, a1, cap1, ms1, rfl, hd, hi1, hin1, c0, c1, c2, c3⟩ := Dat.elem (HIN.out.below hb) HI.out j hlt
            obtain ⟨ht, hle⟩ := Dat.countL_le ds j _ hd
            simp only [Dat.count] at hle
            clear ht
            have HD := Lib.hid hd; clear hd; have HI1 := Lib.hid hi1; clear hi1; have HIN1 := Lib.hid hin1; clear hin1; have HJ' := Lib.hid hj'; clear hj'; have HI' := Lib.hid hi'; clear hi'; have HM' := Lib.hid hm'; clear hm'
            go_wp2_with fail
            refine (IH.out k1 n1 s1 ds1 (List.mem_of_getElem? HD.out) k1 n1 s1 p q a1 cap1 ms1 _ (by omega) HI1.out (HIN1.out.below (by (repeat (first | with_reducible assumption | with_reducible exact Below.refl _ _ | with_reducible refine Below.drew ?_ | with_reducible refine belowDrewN ?_ _ | ((with_reducible refine Below.setCell ?_ ?_ _); rotate_left; focus (first | omega | (simp; done) | (simp; omega))) | ((with_reducible refine Below.alloc ?_ ?_ _); rotate_left; focus (first | omega | (simp; done) | (simp; omega)))))))).mono ?_
            rintro e w1 ⟨a2, cap2, ms2, rfl, hi2, hm2, hb2⟩
            obtain ⟨hc2, hf2⟩ := bcell hb2; have hz2 := hb2.size; (try simp only [World.size_alloc, World.size_setCell, World.size_drew, sizeDrewN] at hz2 hc2 hf2)
            simp only [Dat.k_mk, Dat.n_mk, Dat.s_mk, Dat.ds_mk] at hi2 ⊢
            go_wp2_with (at_builtin; refine wpList_push (wr := wr) rfl _ _ 29 rfl 31 _ 4 56 Try.underlying29 infoDat rfl (by decide) (w.heap.size + 1 + 1) a' cap' ms' rfl HM'.out hsz ?below _ (.ag [.c (.int .i64 k1), .c (.int .i64 n1), .c (.string (swS k1 p q s1)), .sl a2 cap2 4 31 ms2]) rfl rfl _ (Dat.mine hm2) ?lo rfl ?max ?bytes ?_)
            case below => (repeat (first | with_reducible assumption | with_reducible exact Below.refl _ _ | with_reducible refine Below.drew ?_ | with_reducible refine belowDrewN ?_ _ | ((with_reducible refine Below.setCell ?_ ?_ _); rotate_left; focus (first | omega | (simp; done) | (simp; omega))) | ((with_reducible refine Below.alloc ?_ ?_ _); rotate_left; focus (first | omega | (simp; done) | (simp; omega))) | ((with_reducible refine Below.trans ?_ (Below.mono hb2 ?_)); rotate_left; focus (first | omega | (simp; done) | (simp; omega)))))
            case lo => simp
            case max => have := HJ'.out; unfold maxLen; omega
            case bytes => have := HJ'.out; have := HL.out; omega
            intro a3 cap3 w3 hm3 hb3 hz3 hfr3
            have hfin : Dat.IsL 31 (swL p q (ds.take (j + 1))) (ms' ++ [M.ag [.c (.int .i64 k1), .c (.int .i64 n1), .c (.string (swS k1 p q s1)), .sl a2 cap2 4 31 ms2]]) := by
              rw [swL_take HD.out]; exact HI'.out.snoc ⟨_, _, _, rfl, hi2⟩
            have hq3 : (w3.cell? ⟨w.heap.size, 0, none⟩ = some (.int .i64 1) ∧ w3.cell? ⟨w.heap.size, 1, none⟩ = some (.int .i64 n) ∧ w3.cell? ⟨w.heap.size, 2, none⟩ = some (.string p) ∧ w3.cell? ⟨w.heap.size, 3, none⟩ = some (.slice (some ⟨bb, off, none⟩) ms.length cap) ∧ w3.frozen? ⟨w.heap.size, 3, none⟩ = false) := by
              refine ⟨?_, ?_, ?_, ?_, ?_⟩ <;> first | (rw [hb3.cell (by first | (simp; done) | (simp; omega))]; simp (disch := omega) [hc2, q0, q1, q2, q3, go_sem]; done) | (rw [hb3.frozen (by first | (simp; done) | (simp; omega))]; simp (disch := omega) [hf2, qf, go_sem]; done)
            have hr3 : (w3.cell? ⟨w.heap.size + 1, 0, none⟩ = some (.int .i64 0) ∧ w3.cell? ⟨w.heap.size + 1, 1, none⟩ = some (.int .i64 0) ∧ w3.cell? ⟨w.heap.size + 1, 2, none⟩ = some (.string ⟨#[]⟩) ∧ w3.cell? ⟨w.heap.size + 1, 3, none⟩ = some (.slice none 0 0) ∧ w3.frozen? ⟨w.heap.size + 1, 0, none⟩ = false ∧ w3.frozen? ⟨w.heap.size + 1, 1, none⟩ = false ∧ w3.frozen? ⟨w.heap.size + 1, 2, none⟩ = false ∧ w3.frozen? ⟨w.heap.size + 1, 3, none⟩ = false) := by
              refine ⟨?_, ?_, ?_, ?_, ?_, ?_, ?_, ?_⟩ <;> first | (rw [hb3.cell (by first | (simp; done) | (simp; omega))]; simp (disch := omega) [hc2, r0, r1, r2, r3, go_sem]; done) | (rw [hb3.frozen (by first | (simp; done) | (simp; omega))]; simp (disch := omega) [hf2, g0, g1, g2, g3, go_sem]; done)
            have hbw : Below w.heap.size w w3 := by (repeat (first | with_reducible assumption | with_reducible exact Below.refl _ _ | with_reducible refine Below.drew ?_ | with_reducible refine belowDrewN ?_ _ | ((with_reducible refine Below.setCell ?_ ?_ _); rotate_left; focus (first | omega | (simp; done) | (simp; omega))) | ((with_reducible refine Below.alloc ?_ ?_ _); rotate_left; focus (first | omega | (simp; done) | (simp; omega))) | ((with_reducible refine Below.trans ?_ (Below.mono hb2 ?_)); rotate_left; focus (first | omega | (simp; done) | (simp; omega))) | ((with_reducible refine Below.trans ?_ (Below.mono hb3 ?_)); rotate_left; focus (first | omega | (simp; done) | (simp; omega)))))
            have HM3 := Lib.hid hm3; clear hm3; have HFIN := Lib.hid hfin; clear hfin; have HFR3 := Lib.hid hfr3; clear hfr3; have HQ3 := Lib.hid hq3; clear hq3; have HR3 := Lib.hid hr3; clear hr3; have HBW := Lib.hid hbw; clear hbw
            go_wp2_with fail
            go_roundw
            case rel => exact ⟨j + 1, a3, cap3, _, by omega, by go_num, by simp, by have := HJ'.out; simp; omega, HFIN.out, HM3.out, HQ3.out, HR3.out, HBW.out, by omega⟩
            case measure => simp [intOf]; omega
          · have hk2 : j = ms.length := by omega
            subst hk2
            have hfin : Dat.IsL 31 (swL p q ds) ms' := by rw [HL.out, List.take_length] at hi'; exact hi'
            have HFIN := Lib.hid hfin; clear hfin; have HM' := Lib.hid hm'; clear hm'; have HI' := Lib.hid hi'; clear hi'; have HJ' := Lib.hid hj'; clear hj'
            go_wp2_with fail
            refine bodyPost_ret (v := .agg #[.int .i64 1, .int .i64 n, .string p, .slice a' ms'.length cap']) (by simp [results, Try.results65, go_sem, q0, q1, q2, q3, r0, r1, r2, r3]) rfl ?_
            refine ⟨a', cap', ms', rfl, HFIN.out, ?_, ?_⟩
            · (exact M.Mine.mono (M.Mine.keep HM'.out (fun b hb1 hb2 => by (try simp at hb1); simp (disch := (first | omega | (simp; omega))) only [heapSet, heapNew, heapDrew, heapDrewN])) (by first | omega | (simp; done) | (simp; omega)))
            · (repeat (first | with_reducible assumption | with_reducible exact Below.refl _ _ | with_reducible refine Below.drew ?_ | with_reducible refine belowDrewN ?_ _ | ((with_reducible refine Below.setCell ?_ ?_ _); rotate_left; focus (first | omega | (simp; done) | (simp; omega))) | ((with_reducible refine Below.alloc ?_ ?_ _); rotate_left; focus (first | omega | (simp; done) | (simp; omega)))))
      · have hsb2 := ba_ne hsq
        rw [swS_no hsp hsq]
        have HSP := Lib.hid hsp; clear hsp; have HSQ := Lib.hid hsq; clear hsq
        go_wp2_with fail
        go_loopw [7, 28] (fun t i wr => ∃ (j : Nat) (a' : Option Addr) (cap' : Nat) (ms' : List M), j ≤ ms.length ∧ i = .int .i64 j ∧ t = .slice a' ms'.length cap' ∧ ms'.length = j ∧ Dat.IsL 31 (swL p q (ds.take j)) ms' ∧ (M.sl a' cap' 4 31 ms').Mine wr (w.heap.size + 1 + 1) ∧
            (wr.cell? ⟨w.heap.size, 0, none⟩ = some (.int .i64 1) ∧ wr.cell? ⟨w.heap.size, 1, none⟩ = some (.int .i64 n) ∧ wr.cell? ⟨w.heap.size, 2, none⟩ = some (.string s) ∧ wr.cell? ⟨w.heap.size, 3, none⟩ = some (.slice a ms.length cap) ∧ wr.frozen? ⟨w.heap.size, 3, none⟩ = false) ∧
            (wr.cell? ⟨w.heap.size + 1, 0, none⟩ = some (.int .i64 0) ∧ wr.cell? ⟨w.heap.size + 1, 1, none⟩ = some (.int .i64 0) ∧ wr.cell? ⟨w.heap.size + 1, 2, none⟩ = some (.string ⟨#[]⟩) ∧ wr.cell? ⟨w.heap.size + 1, 3, none⟩ = some (.slice none 0 0) ∧ wr.frozen? ⟨w.heap.size + 1, 0, none⟩ = false ∧ wr.frozen? ⟨w.heap.size + 1, 1, none⟩ = false ∧ wr.frozen? ⟨w.heap.size + 1, 2, none⟩ = false ∧ wr.frozen? ⟨w.heap.size + 1, 3, none⟩ = false) ∧
            Below w.heap.size w wr ∧ w.heap.size + 1 + 1 ≤ wr.heap.size) (fun _ i _ => ms.length - (intOf i).toNat)
        case atStart => exact ⟨0, none, 0, [], Nat.zero_le _, rfl, rfl, rfl, by simp [swL, Dat.IsL], M.Mine.nil _ _ _ _ (by decide), by simp [go_sem], by simp [go_sem], by (repeat (first | with_reducible assumption | with_reducible exact Below.refl _ _ | with_reducible refine Below.drew ?_ | with_reducible refine belowDrewN ?_ _ | ((with_reducible refine Below.setCell ?_ ?_ _); rotate_left; focus (first | omega | (simp; done) | (simp; omega))) | ((with_reducible refine Below.alloc ?_ ?_ _); rotate_left; focus (first | omega | (simp; done) | (simp; omega))))), by simp⟩
        case round =>
          obtain ⟨j, a', cap', ms', hj, rfl, rfl, hj', hi', hm', ⟨q0, q1, q2, q3, qf⟩, ⟨r0, r1, r2, r3, g0, g1, g2, g3⟩, hb, hsz⟩ := hrel
          have p2 : w.heap.size < wr.heap.size := by omega
          have p3 : w.heap.size + 1 < wr.heap.size := by omega
          by_cases hlt : j < ms.length
          · obtain ⟨bb, off, k1, n1, s1, ds1, a1, cap1, ms1, rfl, hd, hi1, hin1, c0, c1, c2, c3⟩ := Dat.elem (HIN.out.below hb) HI.out j hlt
            obtain ⟨ht, hle⟩ := Dat.countL_le ds j _ hd
            simp only [Dat.count] at hle
            clear ht
            have HD := Lib.hid hd; clear hd; have HI1 := Lib.hid hi1; clear hi1; have HIN1 := Lib.hid hin1; clear hin1; have HJ' := Lib.hid hj'; clear hj'; have HI' := Lib.hid hi'; clear hi'; have HM' := Lib.hid hm'; clear hm'
            go_wp2_with fail
            refine (IH.out k1 n1 s1 ds1 (List.mem_of_getElem? HD.out) k1 n1 s1 p q a1 cap1 ms1 _ (by omega) HI1.out (HIN1.out.below (by (repeat (first | with_reducible assumption | with_reducible exact Below.refl _ _ | with_reducible refine Below.drew ?_ | with_reducible refine belowDrewN ?_ _ | ((with_reducible refine Below.setCell ?_ ?_ _); rotate_left; focus (first | omega | (simp; done) | (simp; omega))) | ((with_reducible refine Below.alloc ?_ ?_ _); rotate_left; focus (first | omega | (simp; done) | (simp; omega)))))))).mono ?_
            rintro e w1 ⟨a2, cap2, ms2, rfl, hi2, hm2, hb2⟩
            obtain ⟨hc2, hf2⟩ := bcell hb2; have hz2 := hb2.size; (try simp only [World.size_alloc, World.size_setCell, World.size_drew, sizeDrewN] at hz2 hc2 hf2)
            simp only [Dat.k_mk, Dat.n_mk, Dat.s_mk, Dat.ds_mk] at hi2 ⊢
            go_wp2_with (at_builtin; refine wpList_push (wr := wr) rfl _ _ 29 rfl 31 _ 4 56 Try.underlying29 infoDat rfl (by decide) (w.heap.size + 1 + 1) a' cap' ms' rfl HM'.out hsz ?below _ (.ag [.c (.int .i64 k1), .c (.int .i64 n1), .c (.string (swS k1 p q s1)), .sl a2 cap2 4 31 ms2]) rfl rfl _ (Dat.mine hm2) ?lo rfl ?max ?bytes ?_)
            case below => (repeat (first | with_reducible assumption | with_reducible exact Below.refl _ _ | with_reducible refine Below.drew ?_ | with_reducible refine belowDrewN ?_ _ | ((with_reducible refine Below.setCell ?_ ?_ _); rotate_left; focus (first | omega | (simp; done) | (simp; omega))) | ((with_reducible refine Below.alloc ?_ ?_ _); rotate_left; focus (first | omega | (simp; done) | (simp; omega))) | ((with_reducible refine Below.trans ?_ (Below.mono hb2 ?_)); rotate_left; focus (first | omega | (simp; done) | (simp; omega)))))
            case lo => simp
            case max => have := HJ'.out; unfold maxLen; omega
            case bytes => have := HJ'.out; have := HL.out; omega
            intro a3 cap3 w3 hm3 hb3 hz3 hfr3
            have hfin : Dat.IsL 31 (swL p q (ds.take (j + 1))) (ms' ++ [M.ag [.c (.int .i64 k1), .c (.int .i64 n1), .c (.string (swS k1 p q s1)), .sl a2 cap2 4 31 ms2]]) := by
              rw [swL_take HD.out]; exact HI'.out.snoc ⟨_, _, _, rfl, hi2⟩
            have hq3 : (w3.cell? ⟨w.heap.size, 0, none⟩ = some (.int .i64 1) ∧ w3.cell? ⟨w.heap.size, 1, none⟩ = some (.int .i64 n) ∧ w3.cell? ⟨w.heap.size, 2, none⟩ = some (.string s) ∧ w3.cell? ⟨w.heap.size, 3, none⟩ = some (.slice (some ⟨bb, off, none⟩) ms.length cap) ∧ w3.frozen? ⟨w.heap.size, 3, none⟩ = false) := by
              refine ⟨?_, ?_, ?_, ?_, ?_⟩ <;> first | (rw [hb3.cell (by first | (simp; done) | (simp; omega))]; simp (disch := omega) [hc2, q0, q1, q2, q3, go_sem]; done) | (rw [hb3.frozen (by first | (simp; done) | (simp; omega))]; simp (disch := omega) [hf2, qf, go_sem]; done)
            have hr3 : (w3.cell? ⟨w.heap.size + 1, 0, none⟩ = some (.int .i64 0) ∧ w3.cell? ⟨w.heap.size + 1, 1, none⟩ = some (.int .i64 0) ∧ w3.cell? ⟨w.heap.size + 1, 2, none⟩ = some (.string ⟨#[]⟩) ∧ w3.cell? ⟨w.heap.size + 1, 3, none⟩ = some (.slice none 0 0) ∧ w3.frozen? ⟨w.heap.size + 1, 0, none⟩ = false ∧ w3.frozen? ⟨w.heap.size + 1, 1, none⟩ = false ∧ w3.frozen? ⟨w.heap.size + 1, 2, none⟩ = false ∧ w3.frozen? ⟨w.heap.size + 1, 3, none⟩ = false) := by
              refine ⟨?_, ?_, ?_, ?_, ?_, ?_, ?_, ?_⟩ <;> first | (rw [hb3.cell (by first | (simp; done) | (simp; omega))]; simp (disch := omega) [hc2, r0, r1, r2, r3, go_sem]; done) | (rw [hb3.frozen (by first | (simp; done) | (simp; omega))]; simp (disch := omega) [hf2, g0, g1, g2, g3, go_sem]; done)
            have hbw : Below w.heap.size w w3 := by (repeat (first | with_reducible assumption | with_reducible exact Below.refl _ _ | with_reducible refine Below.drew ?_ | with_reducible refine belowDrewN ?_ _ | ((with_reducible refine Below.setCell ?_ ?_ _); rotate_left; focus (first | omega | (simp; done) | (simp; omega))) | ((with_reducible refine Below.alloc ?_ ?_ _); rotate_left; focus (first | omega | (simp; done) | (simp; omega))) | ((with_reducible refine Below.trans ?_ (Below.mono hb2 ?_)); rotate_left; focus (first | omega | (simp; done) | (simp; omega))) | ((with_reducible refine Below.trans ?_ (Below.mono hb3 ?_)); rotate_left; focus (first | omega | (simp; done) | (simp; omega)))))
            have HM3 := Lib.hid hm3; clear hm3; have HFIN := Lib.hid hfin; clear hfin; have HFR3 := Lib.hid hfr3; clear hfr3; have HQ3 := Lib.hid hq3; clear hq3; have HR3 := Lib.hid hr3; clear hr3; have HBW := Lib.hid hbw; clear hbw
            go_wp2_with fail
            go_roundw
            case rel => exact ⟨j + 1, a3, cap3, _, by omega, by go_num, by simp, by have := HJ'.out; simp; omega, HFIN.out, HM3.out, HQ3.out, HR3.out, HBW.out, by omega⟩
            case measure => simp [intOf]; omega
          · have hk2 : j = ms.length := by omega
            subst hk2
            have hfin : Dat.IsL 31 (swL p q ds) ms' := by rw [HL.out, List.take_length] at hi'; exact hi'
            have HFIN := Lib.hid hfin; clear hfin; have HM' := Lib.hid hm'; clear hm'; have HI' := Lib.hid hi'; clear hi'; have HJ' := Lib.hid hj'; clear hj'
            go_wp2_with fail
            refine bodyPost_ret (v := .agg #[.int .i64 1, .int .i64 n, .string s, .slice a' ms'.length cap']) (by simp [results, Try.results65, go_sem, q0, q1, q2, q3, r0, r1, r2, r3]) rfl ?_
            refine ⟨a', cap', ms', rfl, HFIN.out, ?_, ?_⟩
            · (exact M.Mine.mono (M.Mine.keep HM'.out (fun b hb1 hb2 => by (try simp at hb1); simp (disch := (first | omega | (simp; omega))) only [heapSet, heapNew, heapDrew, heapDrewN])) (by first | omega | (simp; done) | (simp; omega)))
            · (repeat (first | with_reducible assumption | with_reducible exact Below.refl _ _ | with_reducible refine Below.drew ?_ | with_reducible refine belowDrewN ?_ _ | ((with_reducible refine Below.setCell ?_ ?_ _); rotate_left; focus (first | omega | (simp; done) | (simp; omega))) | ((with_reducible refine Below.alloc ?_ ?_ _); rotate_left; focus (first | omega | (simp; done) | (simp; omega)))))
  · have hkb : (k == 1) = false := by simp [hk]
    rw [swS_other hk]
    have HK := Lib.hid hk; clear hk
    go_wp2_with fail
    go_loopw [7, 28] (fun t i wr => ∃ (j : Nat) (a' : Option Addr) (cap' : Nat) (ms' : List M), j ≤ ms.length ∧ i = .int .i64 j ∧ t = .slice a' ms'.length cap' ∧ ms'.length = j ∧ Dat.IsL 31 (swL p q (ds.take j)) ms' ∧ (M.sl a' cap' 4 31 ms').Mine wr (w.heap.size + 1 + 1) ∧
        (wr.cell? ⟨w.heap.size, 0, none⟩ = some (.int .i64 k) ∧ wr.cell? ⟨w.heap.size, 1, none⟩ = some (.int .i64 n) ∧ wr.cell? ⟨w.heap.size, 2, none⟩ = some (.string s) ∧ wr.cell? ⟨w.heap.size, 3, none⟩ = some (.slice a ms.length cap) ∧ wr.frozen? ⟨w.heap.size, 3, none⟩ = false) ∧
        (wr.cell? ⟨w.heap.size + 1, 0, none⟩ = some (.int .i64 0) ∧ wr.cell? ⟨w.heap.size + 1, 1, none⟩ = some (.int .i64 0) ∧ wr.cell? ⟨w.heap.size + 1, 2, none⟩ = some (.string ⟨#[]⟩) ∧ wr.cell? ⟨w.heap.size + 1, 3, none⟩ = some (.slice none 0 0) ∧ wr.frozen? ⟨w.heap.size + 1, 0, none⟩ = false ∧ wr.frozen? ⟨w.heap.size + 1, 1, none⟩ = false ∧ wr.frozen? ⟨w.heap.size + 1, 2, none⟩ = false ∧ wr.frozen? ⟨w.heap.size + 1, 3, none⟩ = false) ∧
        Below w.heap.size w wr ∧ w.heap.size + 1 + 1 ≤ wr.heap.size) (fun _ i _ => ms.length - (intOf i).toNat)
    case atStart => exact ⟨0, none, 0, [], Nat.zero_le _, rfl, rfl, rfl, by simp [swL, Dat.IsL], M.Mine.nil _ _ _ _ (by decide), by simp [go_sem], by simp [go_sem], by (repeat (first | with_reducible assumption | with_reducible exact Below.refl _ _ | with_reducible refine Below.drew ?_ | with_reducible refine belowDrewN ?_ _ | ((with_reducible refine Below.setCell ?_ ?_ _); rotate_left; focus (first | omega | (simp; done) | (simp; omega))) | ((with_reducible refine Below.alloc ?_ ?_ _); rotate_left; focus (first | omega | (simp; done) | (simp; omega))))), by simp⟩
    case round =>
      obtain ⟨j, a', cap', ms', hj, rfl, rfl, hj', hi', hm', ⟨q0, q1, q2, q3, qf⟩, ⟨r0, r1, r2, r3, g0, g1, g2, g3⟩, hb, hsz⟩ := hrel
      have p2 : w.heap.size < wr.heap.size := by omega
      have p3 : w.heap.size + 1 < wr.heap.size := by omega
      by_cases hlt : j < ms.length
      · obtain ⟨bb, off, k1, n1, s1, ds1, a1, cap1, ms1, rfl, hd, hi1, hin1, c0, c1, c2, c3⟩ := Dat.elem (HIN.out.below hb) HI.out j hlt
        obtain ⟨ht, hle⟩ := Dat.countL_le ds j _ hd
        simp only [Dat.count] at hle
        clear ht
        have HD := Lib.hid hd; clear hd; have HI1 := Lib.hid hi1; clear hi1; have HIN1 := Lib.hid hin1; clear hin1; have HJ' := Lib.hid hj'; clear hj'; have HI' := Lib.hid hi'; clear hi'; have HM' := Lib.hid hm'; clear hm'
        go_wp2_with fail
        refine (IH.out k1 n1 s1 ds1 (List.mem_of_getElem? HD.out) k1 n1 s1 p q a1 cap1 ms1 _ (by omega) HI1.out (HIN1.out.below (by (repeat (first | with_reducible assumption | with_reducible exact Below.refl _ _ | with_reducible refine Below.drew ?_ | with_reducible refine belowDrewN ?_ _ | ((with_reducible refine Below.setCell ?_ ?_ _); rotate_left; focus (first | omega | (simp; done) | (simp; omega))) | ((with_reducible refine Below.alloc ?_ ?_ _); rotate_left; focus (first | omega | (simp; done) | (simp; omega)))))))).mono ?_
        rintro e w1 ⟨a2, cap2, ms2, rfl, hi2, hm2, hb2⟩
        obtain ⟨hc2, hf2⟩ := bcell hb2; have hz2 := hb2.size; (try simp only [World.size_alloc, World.size_setCell, World.size_drew, sizeDrewN] at hz2 hc2 hf2)
        simp only [Dat.k_mk, Dat.n_mk, Dat.s_mk, Dat.ds_mk] at hi2 ⊢
        go_wp2_with (at_builtin; refine wpList_push (wr := wr) rfl _ _ 29 rfl 31 _ 4 56 Try.underlying29 infoDat rfl (by decide) (w.heap.size + 1 + 1) a' cap' ms' rfl HM'.out hsz ?below _ (.ag [.c (.int .i64 k1), .c (.int .i64 n1), .c (.string (swS k1 p q s1)), .sl a2 cap2 4 31 ms2]) rfl rfl _ (Dat.mine hm2) ?lo rfl ?max ?bytes ?_)
        case below => (repeat (first | with_reducible assumption | with_reducible exact Below.refl _ _ | with_reducible refine Below.drew ?_ | with_reducible refine belowDrewN ?_ _ | ((with_reducible refine Below.setCell ?_ ?_ _); rotate_left; focus (first | omega | (simp; done) | (simp; omega))) | ((with_reducible refine Below.alloc ?_ ?_ _); rotate_left; focus (first | omega | (simp; done) | (simp; omega))) | ((with_reducible refine Below.trans ?_ (Below.mono hb2 ?_)); rotate_left; focus (first | omega | (simp; done) | (simp; omega)))))
        case lo => simp
        case max => have := HJ'.out; unfold maxLen; omega
        case bytes => have := HJ'.out; have := HL.out; omega
        intro a3 cap3 w3 hm3 hb3 hz3 hfr3
        have hfin : Dat.IsL 31 (swL p q (ds.take (j + 1))) (ms' ++ [M.ag [.c (.int .i64 k1), .c (.int .i64 n1), .c (.string (swS k1 p q s1)), .sl a2 cap2 4 31 ms2]]) := by
          rw [swL_take HD.out]; exact HI'.out.snoc ⟨_, _, _, rfl, hi2⟩
        have hq3 : (w3.cell? ⟨w.heap.size, 0, none⟩ = some (.int .i64 k) ∧ w3.cell? ⟨w.heap.size, 1, none⟩ = some (.int .i64 n) ∧ w3.cell? ⟨w.heap.size, 2, none⟩ = some (.string s) ∧ w3.cell? ⟨w.heap.size, 3, none⟩ = some (.slice (some ⟨bb, off, none⟩) ms.length cap) ∧ w3.frozen? ⟨w.heap.size, 3, none⟩ = false) := by
          refine ⟨?_, ?_, ?_, ?_, ?_⟩ <;> first | (rw [hb3.cell (by first | (simp; done) | (simp; omega))]; simp (disch := omega) [hc2, q0, q1, q2, q3, go_sem]; done) | (rw [hb3.frozen (by first | (simp; done) | (simp; omega))]; simp (disch := omega) [hf2, qf, go_sem]; done)
        have hr3 : (w3.cell? ⟨w.heap.size + 1, 0, none⟩ = some (.int .i64 0) ∧ w3.cell? ⟨w.heap.size + 1, 1, none⟩ = some (.int .i64 0) ∧ w3.cell? ⟨w.heap.size + 1, 2, none⟩ = some (.string ⟨#[]⟩) ∧ w3.cell? ⟨w.heap.size + 1, 3, none⟩ = some (.slice none 0 0) ∧ w3.frozen? ⟨w.heap.size + 1, 0, none⟩ = false ∧ w3.frozen? ⟨w.heap.size + 1, 1, none⟩ = false ∧ w3.frozen? ⟨w.heap.size + 1, 2, none⟩ = false ∧ w3.frozen? ⟨w.heap.size + 1, 3, none⟩ = false) := by
          refine ⟨?_, ?_, ?_, ?_, ?_, ?_, ?_, ?_⟩ <;> first | (rw [hb3.cell (by first | (simp; done) | (simp; omega))]; simp (disch := omega) [hc2, r0, r1, r2, r3, go_sem]; done) | (rw [hb3.frozen (by first | (simp; done) | (simp; omega))]; simp (disch := omega) [hf2, g0, g1, g2, g3, go_sem]; done)
        have hbw : Below w.heap.size w w3 := by (repeat (first | with_reducible assumption | with_reducible exact Below.refl _ _ | with_reducible refine Below.drew ?_ | with_reducible refine belowDrewN ?_ _ | ((with_reducible refine Below.setCell ?_ ?_ _); rotate_left; focus (first | omega | (simp; done) | (simp; omega))) | ((with_reducible refine Below.alloc ?_ ?_ _); rotate_left; focus (first | omega | (simp; done) | (simp; omega))) | ((with_reducible refine Below.trans ?_ (Below.mono hb2 ?_)); rotate_left; focus (first | omega | (simp; done) | (simp; omega))) | ((with_reducible refine Below.trans ?_ (Below.mono hb3 ?_)); rotate_left; focus (first | omega | (simp; done) | (simp; omega)))))
        have HM3 := Lib.hid hm3; clear hm3; have HFIN := Lib.hid hfin; clear hfin; have HFR3 := Lib.hid hfr3; clear hfr3; have HQ3 := Lib.hid hq3; clear hq3; have HR3 := Lib.hid hr3; clear hr3; have HBW := Lib.hid hbw; clear hbw
        go_wp2_with fail
        go_roundw
        case rel => exact ⟨j + 1, a3, cap3, _, by omega, by go_num, by simp, by have := HJ'.out; simp; omega, HFIN.out, HM3.out, HQ3.out, HR3.out, HBW.out, by omega⟩
        case measure => simp [intOf]; omega
      · have hk2 : j = ms.length := by omega
        subst hk2
        have hfin : Dat.IsL 31 (swL p q ds) ms' := by rw [HL.out, List.take_length] at hi'; exact hi'
        have HFIN := Lib.hid hfin; clear hfin; have HM' := Lib.hid hm'; clear hm'; have HI' := Lib.hid hi'; clear hi'; have HJ' := Lib.hid hj'; clear hj'
        go_wp2_with fail
        refine bodyPost_ret (v := .agg #[.int .i64 k, .int .i64 n, .string s, .slice a' ms'.length cap']) (by simp [results, Try.results65, go_sem, q0, q1, q2, q3, r0, r1, r2, r3]) rfl ?_
        refine ⟨a', cap', ms', rfl, HFIN.out, ?_, ?_⟩
        · (exact M.Mine.mono (M.Mine.keep HM'.out (fun b hb1 hb2 => by (try simp at hb1); simp (disch := (first | omega | (simp; omega))) only [heapSet, heapNew, heapDrew, heapDrewN])) (by first | omega | (simp; done) | (simp; omega)))
        · (repeat (first | with_reducible assumption | with_reducible exact Below.refl _ _ | with_reducible refine Below.drew ?_ | with_reducible refine belowDrewN ?_ _ | ((with_reducible refine Below.setCell ?_ ?_ _); rotate_left; focus (first | omega | (simp; done) | (simp; omega))) | ((with_reducible refine Below.alloc ?_ ?_ _); rotate_left; focus (first | omega | (simp; done) | (simp; omega)))))
end Go.Proofs.Ytoflfamfhpijcaa
