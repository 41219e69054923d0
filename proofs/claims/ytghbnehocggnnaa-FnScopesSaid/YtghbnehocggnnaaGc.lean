/-
  Texts set together by wip/tools/merge.py: T1, T2, Y6, Y10, ID1, ID3, S1, Q4, SC1, Q2, Q3, MX1. No condition beyond those told with each.
-/
import Derived.Test.YtghbnehocggnnaaGb
/-
  Walks: the syntax of a datum. No condition. (printed by wip/tools/mkt1.py)
-/
set_option linter.unusedVariables false
set_option linter.unusedSimpArgs false
set_option maxRecDepth 100000
namespace Go.Proofs.Ytghbnehocggnnaa
open Go.RowKit

mutual
def synOf : Dat → Syn
  | .mk k n s ds => .mk k n s [] (synOfL ds)
def synOfL : List Dat → List Syn
  | [] => []
  | d :: r => synOf d :: synOfL r
end
theorem synOfL_append : ∀ (ds es : List Dat), synOfL (ds ++ es) = synOfL ds ++ synOfL es
  | [], es => by simp [synOfL]
  | d :: r, es => by simp only [List.cons_append, synOfL]; rw [synOfL_append r es]
theorem synOfL_take {ds : List Dat} {j : Nat} {k n : Int} {s : ByteArray} {es : List Dat} (h : ds[j]? = some (.mk k n s es)) : synOfL (ds.take (j + 1)) = synOfL (ds.take j) ++ [.mk k n s [] (synOfL es)] := by
  rw [take_snoc h, synOfL_append]; simp [synOfL, synOf]
theorem synOfL_places (ds : List Dat) : Syn.placesL (synOfL ds) = 3 * Dat.countL ds := by
  refine Dat.inductL (P := fun ds => Syn.placesL (synOfL ds) = 3 * Dat.countL ds) (fun ds ih => ?_) ds
  induction ds with
  | nil => simp [Syn.placesL, synOfL, Dat.countL]
  | cons d r ihr =>
    obtain ⟨k, n, s, es⟩ := d
    have h1 := ih k n s es (List.mem_cons_self ..)
    have h2 := ihr fun k n s es hm => ih k n s es (List.mem_cons_of_mem _ hm)
    simp only [Syn.placesL, Syn.places, synOfL, synOf, Dat.countL, Dat.count, List.length_nil] at *
    omega
/-- what SyntaxOf hands back -/
noncomputable def synG (k n : Int) (s : ByteArray) (ds : List Dat) : Syn := if isDatB k n s ds = true then .mk k n s [] (synOfL ds) else .mk 0 0 ⟨#[]⟩ [] []
theorem synG_yes {k n : Int} {s : ByteArray} {ds : List Dat} (h : isDatB k n s ds = true) : synG k n s ds = .mk k n s [] (synOfL ds) := by simp [synG, h]
theorem synG_no {k n : Int} {s : ByteArray} {ds : List Dat} (h : isDatB k n s ds = false) : synG k n s ds = .mk 0 0 ⟨#[]⟩ [] [] := by simp [synG, h]
theorem synG_x (k n : Int) (s : ByteArray) (ds : List Dat) : (synG k n s ds).x.length = 0 := by unfold synG; split <;> rfl
theorem synG_places (k n : Int) (s : ByteArray) (ds : List Dat) : Syn.placesL (synG k n s ds).ds ≤ 3 * Dat.countL ds := by
  unfold synG; split
  · simp only [Syn.ds_mk]; rw [synOfL_places]; omega
  · simp [Syn.placesL]
def sOfDs (ds : List Dat) : Prop := ∀ (k n : Int) (s : ByteArray) (a : Option Addr) (cap : Nat) (ms : List M) (w : World), Dat.countL ds ≤ 1000000000 → Dat.IsL 52 ds ms → (M.sl a cap 4 52 ms).In w →
    Calls Try.prog 92 #[.agg #[.int .i64 k, .int .i64 n, .string s, .slice a ms.length cap]] w (RetSyn 27 (.mk k n s [] (synOfL ds)) w)
set_option maxHeartbeats 2000000 in
theorem l2Of_calls : ∀ ds, sOfDs ds := by
  refine Dat.inductL fun ds ih => ?_
  intro k n s a cap ms w hB hi hin
  have hl := hi.length
  have hcap := hin.len
  have hdl := Dat.length_le ds
  have IH := Lib.hid ih; clear ih; have HIN := Lib.hid hin; clear hin; have HI := Lib.hid hi; clear hi; have HL := Lib.hid hl; clear hl
  go_enter Try.func92, Try.ntmps92
  go_wp2_with fail
  go_loopw [16] (fun i wr => ∃ (j : Nat) (a' : Option Addr) (cap' : Nat) (ms' : List M), j ≤ ms.length ∧ i = .int .i64 j ∧ ms'.length = j ∧ Syn.IsL 27 (synOfL (ds.take j)) ms' ∧ (M.sl a' cap' 5 27 ms').Mine wr (w.heap.size + 1 + 1 + 1) ∧
      SBox (w.heap.size + 1 + 1) k n s (.slice none 0 0) (.slice a' ms'.length cap') wr ∧ SBox (w.heap.size + 1) 0 0 ⟨#[]⟩ (.slice none 0 0) (.slice none 0 0) wr ∧ Below w.heap.size w wr ∧ w.heap.size + 1 + 1 + 1 ≤ wr.heap.size) (fun i _ => ms.length - (intOf i).toNat)
  case atStart => exact ⟨0, none, 0, [], Nat.zero_le _, rfl, rfl, by simp [synOfL, Syn.IsL], M.Mine.nil _ _ _ _ (by decide), by constructor <;> simp [go_sem], by constructor <;> simp [go_sem], by (repeat (first | with_reducible assumption | with_reducible exact Below.refl _ _ | with_reducible refine Below.drew ?_ | with_reducible refine belowDrewN ?_ _ | ((with_reducible refine Below.setCell ?_ ?_ _); rotate_left; focus (first | omega | (simp; done) | (simp; omega))) | ((with_reducible refine Below.alloc ?_ ?_ _); rotate_left; focus (first | omega | (simp; done) | (simp; omega))))), by simp⟩
  case round =>
    obtain ⟨j, a', cap', ms', hj, rfl, hj', hi', hm', hq, hr, hb, hsz⟩ := hrel
    obtain ⟨q0, q1, q2, q3, q4, e0, e1, e2, e3, e4⟩ := hq
    obtain ⟨r0, r1, r2, r3, r4, g0, g1, g2, g3, g4⟩ := hr
    have hq : SBox (w.heap.size + 1 + 1) k n s (.slice none 0 0) (.slice a' ms'.length cap') wr := ⟨q0, q1, q2, q3, q4, e0, e1, e2, e3, e4⟩
    have hr : SBox (w.heap.size + 1) 0 0 ⟨#[]⟩ (.slice none 0 0) (.slice none 0 0) wr := ⟨r0, r1, r2, r3, r4, g0, g1, g2, g3, g4⟩
    have p3 := hq.lt
    have p2 := hr.lt
    by_cases hlt : j < ms.length
    · obtain ⟨b, off, k1, n1, s1, ds1, a1, cap1, ms1, rfl, hd, hi1, hin1, c0, c1, c2, c3⟩ := Dat.elem (HIN.out.below hb) HI.out j hlt
      obtain ⟨ht, hle⟩ := Dat.countL_le ds j _ hd
      simp only [Dat.count] at hle
      clear ht
      have HD := Lib.hid hd; clear hd; have HI1 := Lib.hid hi1; clear hi1; have HIN1 := Lib.hid hin1; clear hin1; have HJ' := Lib.hid hj'; clear hj'; have HI' := Lib.hid hi'; clear hi'; have HM' := Lib.hid hm'; clear hm'
      have HQ := Lib.hid hq; clear hq
      have HR := Lib.hid hr; clear hr
      go_wp2_with fail
      go_region_law (first
        | (go_simp; go_at_call 92; refine (IH.out k1 n1 s1 ds1 (List.mem_of_getElem? HD.out) k1 n1 s1 a1 cap1 ms1 _ (by omega) HI1.out (HIN1.out.below (by (repeat (first | with_reducible assumption | with_reducible exact Below.refl _ _ | with_reducible refine Below.drew ?_ | with_reducible refine belowDrewN ?_ _ | ((with_reducible refine Below.setCell ?_ ?_ _); rotate_left; focus (first | omega | (simp; done) | (simp; omega))) | ((with_reducible refine Below.alloc ?_ ?_ _); rotate_left; focus (first | omega | (simp; done) | (simp; omega)))))))).mono ?_; rintro e w1 ⟨xa2, xc2, a2, cap2, ms2, rfl, hi2, hm2, hb2⟩; obtain ⟨hc2, hf2⟩ := bcell hb2; have hz2 := hb2.size; (try simp only [World.size_alloc, World.size_setCell, World.size_drew, sizeDrewN] at hz2 hc2 hf2); have q3c : w1.cell? ⟨w.heap.size + 1 + 1, 4, none⟩ = some (.slice a' ms'.length cap') := (by simp (disch := omega) [hc2, q4, go_sem]); have p3c : w.heap.size + 1 + 1 < w1.heap.size := (by omega); (try simp only [Syn.k_mk, Syn.n_mk, Syn.s_mk, Syn.x_mk, Syn.ds_mk, List.length_nil]))
        | (refine step_push (wr := wr) rfl _ _ 25 rfl 27 _ 5 80 Try.underlying25 infoSyn rfl (by decide) (w.heap.size + 1 + 1 + 1) a' cap' ms' rfl HM'.out hsz (by (repeat (first | with_reducible assumption | with_reducible exact Below.refl _ _ | with_reducible refine Below.drew ?_ | with_reducible refine belowDrewN ?_ _ | ((with_reducible refine Below.setCell ?_ ?_ _); rotate_left; focus (first | omega | (simp; done) | (simp; omega))) | ((with_reducible refine Below.alloc ?_ ?_ _); rotate_left; focus (first | omega | (simp; done) | (simp; omega))) | ((with_reducible refine Below.trans ?_ (Below.mono hb2 ?_)); rotate_left; focus (first | omega | (simp; done) | (simp; omega)))))) _ (.ag [.c (.int .i64 k1), .c (.int .i64 n1), .c (.string s1), .sl xa2 xc2 1 3 (intM []), .sl a2 cap2 5 27 ms2]) (by simp [M.cells, M.cellsL, intM_length]) rfl _ (SynOwn_el hm2 k1 n1 s1) (by simp) rfl (by have := HJ'.out; unfold maxLen; omega) (by have := HJ'.out; have := HL.out; omega) ?_; intro a3 cap3 w3 hm3 hb3 hz3 hfr3; have q3' : w3.cell? ⟨w.heap.size + 1 + 1, 4, none⟩ = some (.slice a' ms'.length cap') := (by rw [hb3.cell (by first | (simp; done) | (simp; omega))]; simp (disch := omega) [hc2, q4, go_sem]); have qf' : w3.frozen? ⟨w.heap.size + 1 + 1, 4, none⟩ = false := (by rw [hb3.frozen (by first | (simp; done) | (simp; omega))]; simp (disch := omega) [hf2, e4, go_sem])))
      all_goals
        have hbA : Below wr.heap.size wr w1 := by (repeat (first | with_reducible assumption | with_reducible exact Below.refl _ _ | with_reducible refine Below.drew ?_ | with_reducible refine belowDrewN ?_ _ | ((with_reducible refine Below.setCell ?_ ?_ _); rotate_left; focus (first | omega | (simp; done) | (simp; omega))) | ((with_reducible refine Below.alloc ?_ ?_ _); rotate_left; focus (first | omega | (simp; done) | (simp; omega))) | ((with_reducible refine Below.trans ?_ (Below.mono hb2 ?_)); rotate_left; focus (first | omega | (simp; done) | (simp; omega)))))
        have hq3 := (HQ.out.below hbA p3).below hb3 (by omega)
        have hr3 := (HR.out.below hbA p2).below hb3 (by omega)
        (try simp only [Syn.k_mk, Syn.n_mk, Syn.s_mk, Syn.x_mk, Syn.ds_mk] at hi2)
        have hfin : Syn.IsL 27 (synOfL (ds.take (j + 1))) (ms' ++ [.ag [.c (.int .i64 k1), .c (.int .i64 n1), .c (.string s1), .sl xa2 xc2 1 3 (intM []), .sl a2 cap2 5 27 ms2]]) := by
          rw [synOfL_take HD.out]; exact HI'.out.snoc ⟨_, _, _, _, _, rfl, hi2⟩
        have hjj := HJ'.out
        have HFIN := Lib.hid hfin; clear hfin; have HM3 := Lib.hid hm3; clear hm3; have HI2 := Lib.hid hi2; clear hi2; have HM2 := Lib.hid hm2; clear hm2; have HQ3 := Lib.hid hq3; clear hq3; have HR3 := Lib.hid hr3; clear hr3; have HBA := Lib.hid hbA; clear hbA
        go_wp2_with fail
        go_roundw
        case rel =>
          refine ⟨j + 1, a3, cap3, ms' ++ [.ag [.c (.int .i64 k1), .c (.int .i64 n1), .c (.string s1), .sl xa2 xc2 1 3 (intM []), .sl a2 cap2 5 27 ms2]], by omega, by go_num, by simp [hjj], HFIN.out, ?_, ?_, ?_, ?_, ?_⟩
          · exact M.Mine.keep HM3.out (fun b hb1 hb2 => by simp (disch := (first | omega | (simp; omega))) only [heapSet])
          · have := HQ3.out.set4 (.slice a3 (ms'.length + 1) cap3); simpa [hjj] using this
          · exact HR3.out.far _ (by first | (simp; done) | (simp; omega))
          · (repeat (first | with_reducible assumption | with_reducible exact Below.refl _ _ | with_reducible refine Below.drew ?_ | with_reducible refine belowDrewN ?_ _ | ((with_reducible refine Below.setCell ?_ ?_ _); rotate_left; focus (first | omega | (simp; done) | (simp; omega))) | ((with_reducible refine Below.alloc ?_ ?_ _); rotate_left; focus (first | omega | (simp; done) | (simp; omega))) | ((with_reducible refine Below.trans ?_ (Below.mono hb2 ?_)); rotate_left; focus (first | omega | (simp; done) | (simp; omega))) | ((with_reducible refine Below.trans ?_ (Below.mono hb3 ?_)); rotate_left; focus (first | omega | (simp; done) | (simp; omega)))))
          · simp; omega
        case measure => simp [intOf]; omega
    · have HJ' := Lib.hid hj'; clear hj'
      have HQ := Lib.hid hq; clear hq
      have HR := Lib.hid hr; clear hr
      go_wp2_with fail
      refine bodyPost_ret (v := .agg #[.int .i64 k, .int .i64 n, .string s, .slice none 0 0, .slice a' ms'.length cap']) (by simp [results, Try.results92, go_sem, q0, q1, q2, q3, q4, r0, r1, r2, r3, r4, HJ'.out]) rfl ?_
      have hk2 : j = ms.length := by omega
      subst hk2
      refine ⟨none, 0, a', cap', ms', rfl, ?_, ?_, ?_⟩
      · rw [HL.out, List.take_length] at hi'
        exact hi'
      · exact SynOwn_two (c := w.heap.size + 1 + 1 + 1) (M.Mine.nil _ _ _ _ (by decide)) (by (exact M.Mine.mono (M.Mine.keep hm' (fun b hb1 hb2 => by (try simp at hb1); simp (disch := (first | omega | (simp; omega))) only [heapSet, heapNew, heapDrew, heapDrewN])) (by first | omega | (simp; done) | (simp; omega)))) (by omega) (by simp [M.blocks, addrBlocks, intM, M.blocksL])
      · (repeat (first | with_reducible assumption | with_reducible exact Below.refl _ _ | with_reducible refine Below.drew ?_ | with_reducible refine belowDrewN ?_ _ | ((with_reducible refine Below.setCell ?_ ?_ _); rotate_left; focus (first | omega | (simp; done) | (simp; omega))) | ((with_reducible refine Below.alloc ?_ ?_ _); rotate_left; focus (first | omega | (simp; done) | (simp; omega))) | ((with_reducible refine Below.trans ?_ (Below.mono hb ?_)); rotate_left; focus (first | omega | (simp; done) | (simp; omega)))))
def iOfDs (ds : List Dat) : Prop := ∀ (k n : Int) (s : ByteArray) (a : Option Addr) (cap : Nat) (ms : List M) (w : World), Dat.countL ds ≤ 1000000000 → Dat.IsL 52 ds ms → (M.sl a cap 4 52 ms).In w →
    Calls Try.prog 72 #[.agg #[.int .i64 k, .int .i64 n, .string s, .slice a ms.length cap]] w (RetSyn 27 (.mk k n s [] (synOfL ds)) w)
set_option maxHeartbeats 2000000 in
theorem iToSyntax_calls : ∀ ds, iOfDs ds := by
  refine Dat.inductL fun ds ih => ?_
  intro k n s a cap ms w hB hi hin
  have hl := hi.length
  have hcap := hin.len
  have hdl := Dat.length_le ds
  have IH := Lib.hid ih; clear ih; have HIN := Lib.hid hin; clear hin; have HI := Lib.hid hi; clear hi; have HL := Lib.hid hl; clear hl
  go_enter Try.func72, Try.ntmps72
  go_wp2_with fail
  go_loopw [16] (fun i wr => ∃ (j : Nat) (a' : Option Addr) (cap' : Nat) (ms' : List M), j ≤ ms.length ∧ i = .int .i64 j ∧ ms'.length = j ∧ Syn.IsL 27 (synOfL (ds.take j)) ms' ∧ (M.sl a' cap' 5 27 ms').Mine wr (w.heap.size + 1 + 1 + 1) ∧
      SBox (w.heap.size + 1 + 1) k n s (.slice none 0 0) (.slice a' ms'.length cap') wr ∧ SBox (w.heap.size + 1) 0 0 ⟨#[]⟩ (.slice none 0 0) (.slice none 0 0) wr ∧ Below w.heap.size w wr ∧ w.heap.size + 1 + 1 + 1 ≤ wr.heap.size) (fun i _ => ms.length - (intOf i).toNat)
  case atStart => exact ⟨0, none, 0, [], Nat.zero_le _, rfl, rfl, by simp [synOfL, Syn.IsL], M.Mine.nil _ _ _ _ (by decide), by constructor <;> simp [go_sem], by constructor <;> simp [go_sem], by (repeat (first | with_reducible assumption | with_reducible exact Below.refl _ _ | with_reducible refine Below.drew ?_ | with_reducible refine belowDrewN ?_ _ | ((with_reducible refine Below.setCell ?_ ?_ _); rotate_left; focus (first | omega | (simp; done) | (simp; omega))) | ((with_reducible refine Below.alloc ?_ ?_ _); rotate_left; focus (first | omega | (simp; done) | (simp; omega))))), by simp⟩
  case round =>
    obtain ⟨j, a', cap', ms', hj, rfl, hj', hi', hm', hq, hr, hb, hsz⟩ := hrel
    obtain ⟨q0, q1, q2, q3, q4, e0, e1, e2, e3, e4⟩ := hq
    obtain ⟨r0, r1, r2, r3, r4, g0, g1, g2, g3, g4⟩ := hr
    have hq : SBox (w.heap.size + 1 + 1) k n s (.slice none 0 0) (.slice a' ms'.length cap') wr := ⟨q0, q1, q2, q3, q4, e0, e1, e2, e3, e4⟩
    have hr : SBox (w.heap.size + 1) 0 0 ⟨#[]⟩ (.slice none 0 0) (.slice none 0 0) wr := ⟨r0, r1, r2, r3, r4, g0, g1, g2, g3, g4⟩
    have p3 := hq.lt
    have p2 := hr.lt
    by_cases hlt : j < ms.length
    · obtain ⟨b, off, k1, n1, s1, ds1, a1, cap1, ms1, rfl, hd, hi1, hin1, c0, c1, c2, c3⟩ := Dat.elem (HIN.out.below hb) HI.out j hlt
      obtain ⟨ht, hle⟩ := Dat.countL_le ds j _ hd
      simp only [Dat.count] at hle
      clear ht
      have HD := Lib.hid hd; clear hd; have HI1 := Lib.hid hi1; clear hi1; have HIN1 := Lib.hid hin1; clear hin1; have HJ' := Lib.hid hj'; clear hj'; have HI' := Lib.hid hi'; clear hi'; have HM' := Lib.hid hm'; clear hm'
      have HQ := Lib.hid hq; clear hq
      have HR := Lib.hid hr; clear hr
      go_wp2_with fail
      go_region_law (first
        | (go_simp; go_at_call 72; refine (IH.out k1 n1 s1 ds1 (List.mem_of_getElem? HD.out) k1 n1 s1 a1 cap1 ms1 _ (by omega) HI1.out (HIN1.out.below (by (repeat (first | with_reducible assumption | with_reducible exact Below.refl _ _ | with_reducible refine Below.drew ?_ | with_reducible refine belowDrewN ?_ _ | ((with_reducible refine Below.setCell ?_ ?_ _); rotate_left; focus (first | omega | (simp; done) | (simp; omega))) | ((with_reducible refine Below.alloc ?_ ?_ _); rotate_left; focus (first | omega | (simp; done) | (simp; omega)))))))).mono ?_; rintro e w1 ⟨xa2, xc2, a2, cap2, ms2, rfl, hi2, hm2, hb2⟩; obtain ⟨hc2, hf2⟩ := bcell hb2; have hz2 := hb2.size; (try simp only [World.size_alloc, World.size_setCell, World.size_drew, sizeDrewN] at hz2 hc2 hf2); have q3c : w1.cell? ⟨w.heap.size + 1 + 1, 4, none⟩ = some (.slice a' ms'.length cap') := (by simp (disch := omega) [hc2, q4, go_sem]); have p3c : w.heap.size + 1 + 1 < w1.heap.size := (by omega); (try simp only [Syn.k_mk, Syn.n_mk, Syn.s_mk, Syn.x_mk, Syn.ds_mk, List.length_nil]))
        | (refine step_push (wr := wr) rfl _ _ 25 rfl 27 _ 5 80 Try.underlying25 infoSyn rfl (by decide) (w.heap.size + 1 + 1 + 1) a' cap' ms' rfl HM'.out hsz (by (repeat (first | with_reducible assumption | with_reducible exact Below.refl _ _ | with_reducible refine Below.drew ?_ | with_reducible refine belowDrewN ?_ _ | ((with_reducible refine Below.setCell ?_ ?_ _); rotate_left; focus (first | omega | (simp; done) | (simp; omega))) | ((with_reducible refine Below.alloc ?_ ?_ _); rotate_left; focus (first | omega | (simp; done) | (simp; omega))) | ((with_reducible refine Below.trans ?_ (Below.mono hb2 ?_)); rotate_left; focus (first | omega | (simp; done) | (simp; omega)))))) _ (.ag [.c (.int .i64 k1), .c (.int .i64 n1), .c (.string s1), .sl xa2 xc2 1 3 (intM []), .sl a2 cap2 5 27 ms2]) (by simp [M.cells, M.cellsL, intM_length]) rfl _ (SynOwn_el hm2 k1 n1 s1) (by simp) rfl (by have := HJ'.out; unfold maxLen; omega) (by have := HJ'.out; have := HL.out; omega) ?_; intro a3 cap3 w3 hm3 hb3 hz3 hfr3; have q3' : w3.cell? ⟨w.heap.size + 1 + 1, 4, none⟩ = some (.slice a' ms'.length cap') := (by rw [hb3.cell (by first | (simp; done) | (simp; omega))]; simp (disch := omega) [hc2, q4, go_sem]); have qf' : w3.frozen? ⟨w.heap.size + 1 + 1, 4, none⟩ = false := (by rw [hb3.frozen (by first | (simp; done) | (simp; omega))]; simp (disch := omega) [hf2, e4, go_sem])))
      all_goals
        have hbA : Below wr.heap.size wr w1 := by (repeat (first | with_reducible assumption | with_reducible exact Below.refl _ _ | with_reducible refine Below.drew ?_ | with_reducible refine belowDrewN ?_ _ | ((with_reducible refine Below.setCell ?_ ?_ _); rotate_left; focus (first | omega | (simp; done) | (simp; omega))) | ((with_reducible refine Below.alloc ?_ ?_ _); rotate_left; focus (first | omega | (simp; done) | (simp; omega))) | ((with_reducible refine Below.trans ?_ (Below.mono hb2 ?_)); rotate_left; focus (first | omega | (simp; done) | (simp; omega)))))
        have hq3 := (HQ.out.below hbA p3).below hb3 (by omega)
        have hr3 := (HR.out.below hbA p2).below hb3 (by omega)
        (try simp only [Syn.k_mk, Syn.n_mk, Syn.s_mk, Syn.x_mk, Syn.ds_mk] at hi2)
        have hfin : Syn.IsL 27 (synOfL (ds.take (j + 1))) (ms' ++ [.ag [.c (.int .i64 k1), .c (.int .i64 n1), .c (.string s1), .sl xa2 xc2 1 3 (intM []), .sl a2 cap2 5 27 ms2]]) := by
          rw [synOfL_take HD.out]; exact HI'.out.snoc ⟨_, _, _, _, _, rfl, hi2⟩
        have hjj := HJ'.out
        have HFIN := Lib.hid hfin; clear hfin; have HM3 := Lib.hid hm3; clear hm3; have HI2 := Lib.hid hi2; clear hi2; have HM2 := Lib.hid hm2; clear hm2; have HQ3 := Lib.hid hq3; clear hq3; have HR3 := Lib.hid hr3; clear hr3; have HBA := Lib.hid hbA; clear hbA
        go_wp2_with fail
        go_roundw
        case rel =>
          refine ⟨j + 1, a3, cap3, ms' ++ [.ag [.c (.int .i64 k1), .c (.int .i64 n1), .c (.string s1), .sl xa2 xc2 1 3 (intM []), .sl a2 cap2 5 27 ms2]], by omega, by go_num, by simp [hjj], HFIN.out, ?_, ?_, ?_, ?_, ?_⟩
          · exact M.Mine.keep HM3.out (fun b hb1 hb2 => by simp (disch := (first | omega | (simp; omega))) only [heapSet])
          · have := HQ3.out.set4 (.slice a3 (ms'.length + 1) cap3); simpa [hjj] using this
          · exact HR3.out.far _ (by first | (simp; done) | (simp; omega))
          · (repeat (first | with_reducible assumption | with_reducible exact Below.refl _ _ | with_reducible refine Below.drew ?_ | with_reducible refine belowDrewN ?_ _ | ((with_reducible refine Below.setCell ?_ ?_ _); rotate_left; focus (first | omega | (simp; done) | (simp; omega))) | ((with_reducible refine Below.alloc ?_ ?_ _); rotate_left; focus (first | omega | (simp; done) | (simp; omega))) | ((with_reducible refine Below.trans ?_ (Below.mono hb2 ?_)); rotate_left; focus (first | omega | (simp; done) | (simp; omega))) | ((with_reducible refine Below.trans ?_ (Below.mono hb3 ?_)); rotate_left; focus (first | omega | (simp; done) | (simp; omega)))))
          · simp; omega
        case measure => simp [intOf]; omega
    · have HJ' := Lib.hid hj'; clear hj'
      have HQ := Lib.hid hq; clear hq
      have HR := Lib.hid hr; clear hr
      go_wp2_with fail
      refine bodyPost_ret (v := .agg #[.int .i64 k, .int .i64 n, .string s, .slice none 0 0, .slice a' ms'.length cap']) (by simp [results, Try.results72, go_sem, q0, q1, q2, q3, q4, r0, r1, r2, r3, r4, HJ'.out]) rfl ?_
      have hk2 : j = ms.length := by omega
      subst hk2
      refine ⟨none, 0, a', cap', ms', rfl, ?_, ?_, ?_⟩
      · rw [HL.out, List.take_length] at hi'
        exact hi'
      · exact SynOwn_two (c := w.heap.size + 1 + 1 + 1) (M.Mine.nil _ _ _ _ (by decide)) (by (exact M.Mine.mono (M.Mine.keep hm' (fun b hb1 hb2 => by (try simp at hb1); simp (disch := (first | omega | (simp; omega))) only [heapSet, heapNew, heapDrew, heapDrewN])) (by first | omega | (simp; done) | (simp; omega)))) (by omega) (by simp [M.blocks, addrBlocks, intM, M.blocksL])
      · (repeat (first | with_reducible assumption | with_reducible exact Below.refl _ _ | with_reducible refine Below.drew ?_ | with_reducible refine belowDrewN ?_ _ | ((with_reducible refine Below.setCell ?_ ?_ _); rotate_left; focus (first | omega | (simp; done) | (simp; omega))) | ((with_reducible refine Below.alloc ?_ ?_ _); rotate_left; focus (first | omega | (simp; done) | (simp; omega))) | ((with_reducible refine Below.trans ?_ (Below.mono hb ?_)); rotate_left; focus (first | omega | (simp; done) | (simp; omega)))))
set_option maxHeartbeats 1000000 in
theorem iSyntaxOf_calls (k n : Int) (s : ByteArray) (ds : List Dat) (a : Option Addr) (cap : Nat) (ms : List M) (w : World) (hwf : (Dat.mk k n s ds).wf) (hB : Dat.countL ds ≤ 1000000000) (hi : Dat.IsL 52 ds ms) (hin : (M.sl a cap 4 52 ms).In w) :
    Calls Try.prog 32 #[.agg #[.int .i64 k, .int .i64 n, .string s, .slice a ms.length cap]] w (RetSyn 27 (synG k n s ds) w) := by
  have hcap := hin.len
  have HI := Lib.hid hi; clear hi; have HIN := Lib.hid hin; clear hin; have HWF := Lib.hid hwf; clear hwf
  go_enter Try.func32, Try.ntmps32
  go_wp2_with fail
  refine (iIsDatum_calls k n s ds a cap ms _ HWF.out hB HI.out (HIN.out.below (by (repeat (first | with_reducible assumption | with_reducible exact Below.refl _ _ | with_reducible refine Below.drew ?_ | with_reducible refine belowDrewN ?_ _ | ((with_reducible refine Below.setCell ?_ ?_ _); rotate_left; focus (first | omega | (simp; done) | (simp; omega))) | ((with_reducible refine Below.alloc ?_ ?_ _); rotate_left; focus (first | omega | (simp; done) | (simp; omega)))))))).mono ?_
  rintro e w1 ⟨rfl, hb1⟩
  obtain ⟨hc1, hf1⟩ := bcell hb1; have hz1 := hb1.size; (try simp only [World.size_alloc, World.size_setCell, World.size_drew, sizeDrewN] at hz1 hc1 hf1)
  have p0 : w.heap.size < w1.heap.size := by omega
  have p1 : w.heap.size + 1 < w1.heap.size := by omega
  have hq : DBox w.heap.size k n s (.slice a ms.length cap) w1 := by constructor <;> first | (simp (disch := omega) [hc1, hf1, go_sem]; done) | (simp (disch := omega) [hc1, hf1, go_sem]; rfl)
  have hr : SBox (w.heap.size + 1) 0 0 ⟨#[]⟩ (.slice none 0 0) (.slice none 0 0) w1 := by constructor <;> first | (simp (disch := omega) [hc1, hf1, go_sem]; done) | (simp (disch := omega) [hc1, hf1, go_sem]; rfl)
  obtain ⟨q0, q1, q2, q3, e0, e1, e2, e3⟩ := hq
  obtain ⟨r0, r1, r2, r3, r4, g0, g1, g2, g3, g4⟩ := hr
  clear hc1 hf1
  cases hv : isDatB k n s ds with
  | false =>
    have hg := synG_no hv
    have HV := Lib.hid hv; clear hv; have HG := Lib.hid hg; clear hg
    go_wp2_with fail
    refine bodyPost_ret (v := .agg #[.int .i64 0, .int .i64 0, .string ⟨#[]⟩, .slice none 0 0, .slice none 0 0]) (by simp [results, Try.results32, go_sem, q0, q1, q2, q3, r0, r1, r2, r3, r4]) rfl ?_
    rw [HG.out]
    refine ⟨none, 0, none, 0, [], rfl, rfl, ?_, ?_⟩
    · exact SynOwn_two (c := w.heap.size) (M.Mine.nil _ _ _ _ (by decide)) (M.Mine.nil _ _ _ _ (by decide)) (by omega) (by simp [M.blocks, addrBlocks, intM, M.blocksL])
    · (repeat (first | with_reducible assumption | with_reducible exact Below.refl _ _ | with_reducible refine Below.drew ?_ | with_reducible refine belowDrewN ?_ _ | ((with_reducible refine Below.setCell ?_ ?_ _); rotate_left; focus (first | omega | (simp; done) | (simp; omega))) | ((with_reducible refine Below.alloc ?_ ?_ _); rotate_left; focus (first | omega | (simp; done) | (simp; omega))) | ((with_reducible refine Below.trans ?_ (Below.mono hb1 ?_)); rotate_left; focus (first | omega | (simp; done) | (simp; omega)))))
  | true =>
    have hg := synG_yes hv
    have HV := Lib.hid hv; clear hv; have HG := Lib.hid hg; clear hg
    go_wp2_with fail
    refine (iToSyntax_calls ds k n s a cap ms _ hB HI.out (HIN.out.below (by (repeat (first | with_reducible assumption | with_reducible exact Below.refl _ _ | with_reducible refine Below.drew ?_ | with_reducible refine belowDrewN ?_ _ | ((with_reducible refine Below.setCell ?_ ?_ _); rotate_left; focus (first | omega | (simp; done) | (simp; omega))) | ((with_reducible refine Below.alloc ?_ ?_ _); rotate_left; focus (first | omega | (simp; done) | (simp; omega))) | ((with_reducible refine Below.trans ?_ (Below.mono hb1 ?_)); rotate_left; focus (first | omega | (simp; done) | (simp; omega)))))))).mono ?_
    rintro e w2 ⟨xa2, xc2, a2, cap2, ms2, rfl, hi2, hm2, hb2⟩
    obtain ⟨hc2, hf2⟩ := bcell hb2; have hz2 := hb2.size; (try simp only [World.size_alloc, World.size_setCell, World.size_drew, sizeDrewN] at hz2 hc2 hf2)
    simp only [Syn.k_mk, Syn.n_mk, Syn.s_mk, Syn.x_mk, Syn.ds_mk, List.length_nil] at hi2 hm2 ⊢
    have hr : SBox (w.heap.size + 1) 0 0 ⟨#[]⟩ (.slice none 0 0) (.slice none 0 0) w2 := by constructor <;> simp (disch := omega) [hc2, hf2, r0, r1, r2, r3, r4, g0, g1, g2, g3, g4]
    obtain ⟨s0, s1, s2, s3, s4, h0, h1, h2, h3, h4⟩ := hr
    have HI2 := Lib.hid hi2; clear hi2; have HM2 := Lib.hid hm2; clear hm2
    go_wp2_with fail
    refine bodyPost_ret (v := .agg #[.int .i64 k, .int .i64 n, .string s, .slice xa2 0 xc2, .slice a2 ms2.length cap2]) (by simp [results, Try.results32, go_sem, s0, s1, s2, s3, s4]) rfl ?_
    refine ⟨xa2, xc2, a2, cap2, ms2, by rw [HG.out]; rfl, by rw [HG.out]; exact HI2.out, ?_, ?_⟩
    · rw [HG.out]; (exact M.Mine.mono (M.Mine.keep HM2.out (fun b hb1 hb2 => by (try simp at hb1); simp (disch := (first | omega | (simp; omega))) only [heapSet, heapNew, heapDrew, heapDrewN])) (by first | omega | (simp; done) | (simp; omega)))
    · (repeat (first | with_reducible assumption | with_reducible exact Below.refl _ _ | with_reducible refine Below.drew ?_ | with_reducible refine belowDrewN ?_ _ | ((with_reducible refine Below.setCell ?_ ?_ _); rotate_left; focus (first | omega | (simp; done) | (simp; omega))) | ((with_reducible refine Below.alloc ?_ ?_ _); rotate_left; focus (first | omega | (simp; done) | (simp; omega))) | ((with_reducible refine Below.trans ?_ (Below.mono hb1 ?_)); rotate_left; focus (first | omega | (simp; done) | (simp; omega))) | ((with_reducible refine Below.trans ?_ (Below.mono hb2 ?_)); rotate_left; focus (first | omega | (simp; done) | (simp; omega)))))
end Go.Proofs.Ytghbnehocggnnaa

/-
  Walks: the datum of a piece of syntax. No condition. (printed by wip/tools/mkt1.py)
-/
set_option linter.unusedVariables false
set_option linter.unusedSimpArgs false
set_option maxRecDepth 100000
namespace Go.Proofs.Ytghbnehocggnnaa
open Go.RowKit

mutual
def datOf : Syn → Dat
  | .mk k n s _ ds => .mk k n s (datOfL ds)
def datOfL : List Syn → List Dat
  | [] => []
  | d :: r => datOf d :: datOfL r
end
theorem datOfL_append : ∀ (ds es : List Syn), datOfL (ds ++ es) = datOfL ds ++ datOfL es
  | [], es => by simp [datOfL]
  | d :: r, es => by simp only [List.cons_append, datOfL]; rw [datOfL_append r es]
theorem datOfL_take {ds : List Syn} {j : Nat} {k n : Int} {s : ByteArray} {x : List Int} {es : List Syn} (h : ds[j]? = some (.mk k n s x es)) : datOfL (ds.take (j + 1)) = datOfL (ds.take j) ++ [.mk k n s (datOfL es)] := by
  rw [take_snoc h, datOfL_append]; simp [datOfL, datOf]
theorem datOfL_count (ds : List Syn) : Dat.countL (datOfL ds) = Syn.countL ds := by
  refine Syn.inductL (P := fun ds => Dat.countL (datOfL ds) = Syn.countL ds) (fun ds ih => ?_) ds
  induction ds with
  | nil => simp [Syn.countL, datOfL, Dat.countL]
  | cons d r ihr =>
    obtain ⟨k, n, s, x, es⟩ := d
    have h1 := ih k n s x es (List.mem_cons_self ..)
    have h2 := ihr fun k n s x es hm => ih k n s x es (List.mem_cons_of_mem _ hm)
    simp only [Syn.countL, Syn.count, datOfL, datOf, Dat.countL, Dat.count] at *
    omega
/-- what DatumOf hands back -/
noncomputable def datG (k n : Int) (s : ByteArray) (x : List Int) (ds : List Syn) : Dat := if isSynB k n s x ds = true then .mk k n s (datOfL ds) else .mk 0 0 ⟨#[]⟩ []
theorem datG_yes {k n : Int} {s : ByteArray} {x : List Int} {ds : List Syn} (h : isSynB k n s x ds = true) : datG k n s x ds = .mk k n s (datOfL ds) := by simp [datG, h]
theorem datG_no {k n : Int} {s : ByteArray} {x : List Int} {ds : List Syn} (h : isSynB k n s x ds = false) : datG k n s x ds = .mk 0 0 ⟨#[]⟩ [] := by simp [datG, h]
theorem datG_count (k n : Int) (s : ByteArray) (x : List Int) (ds : List Syn) : Dat.countL (datG k n s x ds).ds ≤ Syn.countL ds := by
  unfold datG; split
  · simp only [Dat.ds_mk]; rw [datOfL_count]; omega
  · simp [Dat.countL]
def sDoSs (ds : List Syn) : Prop := ∀ (k n : Int) (s : ByteArray) (x : List Int) (xa : Option Addr) (xc : Nat) (a : Option Addr) (cap : Nat) (ms : List M) (w : World), Syn.countL ds ≤ 1000000000 → Syn.IsL 27 ds ms → (M.sl a cap 5 27 ms).In w →
    Calls Try.prog 59 #[.agg #[.int .i64 k, .int .i64 n, .string s, .slice xa x.length xc, .slice a ms.length cap]] w (RetDat 52 (.mk k n s (datOfL ds)) w)
set_option maxHeartbeats 2000000 in
theorem l2Datum_calls : ∀ ds, sDoSs ds := by
  refine Syn.inductL fun ds ih => ?_
  intro k n s x xa xc a cap ms w hB hi hin
  have hl := hi.length
  have hcap := hin.len
  have hdl := Syn.length_le ds
  have IH := Lib.hid ih; clear ih; have HIN := Lib.hid hin; clear hin; have HI := Lib.hid hi; clear hi; have HL := Lib.hid hl; clear hl
  go_enter Try.func59, Try.ntmps59
  go_wp2_with fail
  go_loopw [16] (fun i wr => ∃ (j : Nat) (a' : Option Addr) (cap' : Nat) (ms' : List M), j ≤ ms.length ∧ i = .int .i64 j ∧ ms'.length = j ∧ Dat.IsL 52 (datOfL (ds.take j)) ms' ∧ (M.sl a' cap' 4 52 ms').Mine wr (w.heap.size + 1 + 1 + 1) ∧
      DBox (w.heap.size + 1 + 1) k n s (.slice a' ms'.length cap') wr ∧ DBox (w.heap.size + 1) 0 0 ⟨#[]⟩ (.slice none 0 0) wr ∧ Below w.heap.size w wr ∧ w.heap.size + 1 + 1 + 1 ≤ wr.heap.size) (fun i _ => ms.length - (intOf i).toNat)
  case atStart => exact ⟨0, none, 0, [], Nat.zero_le _, rfl, rfl, by simp [datOfL, Dat.IsL], M.Mine.nil _ _ _ _ (by decide), by constructor <;> simp [go_sem], by constructor <;> simp [go_sem], by (repeat (first | with_reducible assumption | with_reducible exact Below.refl _ _ | with_reducible refine Below.drew ?_ | with_reducible refine belowDrewN ?_ _ | ((with_reducible refine Below.setCell ?_ ?_ _); rotate_left; focus (first | omega | (simp; done) | (simp; omega))) | ((with_reducible refine Below.alloc ?_ ?_ _); rotate_left; focus (first | omega | (simp; done) | (simp; omega))))), by simp⟩
  case round =>
    obtain ⟨j, a', cap', ms', hj, rfl, hj', hi', hm', hq, hr, hb, hsz⟩ := hrel
    obtain ⟨q0, q1, q2, q3, e0, e1, e2, e3⟩ := hq
    obtain ⟨r0, r1, r2, r3, g0, g1, g2, g3⟩ := hr
    have hq : DBox (w.heap.size + 1 + 1) k n s (.slice a' ms'.length cap') wr := ⟨q0, q1, q2, q3, e0, e1, e2, e3⟩
    have hr : DBox (w.heap.size + 1) 0 0 ⟨#[]⟩ (.slice none 0 0) wr := ⟨r0, r1, r2, r3, g0, g1, g2, g3⟩
    have p3 := hq.lt
    have p2 := hr.lt
    by_cases hlt : j < ms.length
    · obtain ⟨b, off, k1, n1, s1, x1, ds1, xa1, xc1, a1, cap1, ms1, rfl, hd, hi1, hx1, hin1, c0, c1, c2, c3, c4⟩ := Syn.elem (HIN.out.below hb) HI.out j hlt
      obtain ⟨ht, hle⟩ := Syn.countL_le ds j _ hd
      simp only [Syn.count] at hle
      clear ht
      have HD := Lib.hid hd; clear hd; have HI1 := Lib.hid hi1; clear hi1; have HX1 := Lib.hid hx1; clear hx1; have HIN1 := Lib.hid hin1; clear hin1; have HJ' := Lib.hid hj'; clear hj'; have HI' := Lib.hid hi'; clear hi'; have HM' := Lib.hid hm'; clear hm'
      have HQ := Lib.hid hq; clear hq
      have HR := Lib.hid hr; clear hr
      go_wp2_with fail
      go_region_law (first
        | (go_simp; go_at_call 59; refine (IH.out k1 n1 s1 x1 ds1 (List.mem_of_getElem? HD.out) k1 n1 s1 x1 xa1 xc1 a1 cap1 ms1 _ (by omega) HI1.out (HIN1.out.below (by (repeat (first | with_reducible assumption | with_reducible exact Below.refl _ _ | with_reducible refine Below.drew ?_ | with_reducible refine belowDrewN ?_ _ | ((with_reducible refine Below.setCell ?_ ?_ _); rotate_left; focus (first | omega | (simp; done) | (simp; omega))) | ((with_reducible refine Below.alloc ?_ ?_ _); rotate_left; focus (first | omega | (simp; done) | (simp; omega)))))))).mono ?_; rintro e w1 ⟨a2, cap2, ms2, rfl, hi2, hm2, hb2⟩; obtain ⟨hc2, hf2⟩ := bcell hb2; have hz2 := hb2.size; (try simp only [World.size_alloc, World.size_setCell, World.size_drew, sizeDrewN] at hz2 hc2 hf2); have q3c : w1.cell? ⟨w.heap.size + 1 + 1, 3, none⟩ = some (.slice a' ms'.length cap') := (by simp (disch := omega) [hc2, q3, go_sem]); have p3c : w.heap.size + 1 + 1 < w1.heap.size := (by omega); (try simp only [Dat.k_mk, Dat.n_mk, Dat.s_mk, Dat.ds_mk, List.length_nil]))
        | (refine step_push (wr := wr) rfl _ _ 50 rfl 52 _ 4 56 Try.underlying50 infoDat rfl (by decide) (w.heap.size + 1 + 1 + 1) a' cap' ms' rfl HM'.out hsz (by (repeat (first | with_reducible assumption | with_reducible exact Below.refl _ _ | with_reducible refine Below.drew ?_ | with_reducible refine belowDrewN ?_ _ | ((with_reducible refine Below.setCell ?_ ?_ _); rotate_left; focus (first | omega | (simp; done) | (simp; omega))) | ((with_reducible refine Below.alloc ?_ ?_ _); rotate_left; focus (first | omega | (simp; done) | (simp; omega))) | ((with_reducible refine Below.trans ?_ (Below.mono hb2 ?_)); rotate_left; focus (first | omega | (simp; done) | (simp; omega)))))) _ (.ag [.c (.int .i64 k1), .c (.int .i64 n1), .c (.string s1), .sl a2 cap2 4 52 ms2]) (by simp [M.cells, M.cellsL, intM_length]) rfl _ (Dat.mine hm2) (by simp) rfl (by have := HJ'.out; unfold maxLen; omega) (by have := HJ'.out; have := HL.out; omega) ?_; intro a3 cap3 w3 hm3 hb3 hz3 hfr3; have q3' : w3.cell? ⟨w.heap.size + 1 + 1, 3, none⟩ = some (.slice a' ms'.length cap') := (by rw [hb3.cell (by first | (simp; done) | (simp; omega))]; simp (disch := omega) [hc2, q3, go_sem]); have qf' : w3.frozen? ⟨w.heap.size + 1 + 1, 3, none⟩ = false := (by rw [hb3.frozen (by first | (simp; done) | (simp; omega))]; simp (disch := omega) [hf2, e3, go_sem])))
      all_goals
        have hbA : Below wr.heap.size wr w1 := by (repeat (first | with_reducible assumption | with_reducible exact Below.refl _ _ | with_reducible refine Below.drew ?_ | with_reducible refine belowDrewN ?_ _ | ((with_reducible refine Below.setCell ?_ ?_ _); rotate_left; focus (first | omega | (simp; done) | (simp; omega))) | ((with_reducible refine Below.alloc ?_ ?_ _); rotate_left; focus (first | omega | (simp; done) | (simp; omega))) | ((with_reducible refine Below.trans ?_ (Below.mono hb2 ?_)); rotate_left; focus (first | omega | (simp; done) | (simp; omega)))))
        have hq3 := (HQ.out.below hbA p3).below hb3 (by omega)
        have hr3 := (HR.out.below hbA p2).below hb3 (by omega)
        (try simp only [Dat.k_mk, Dat.n_mk, Dat.s_mk, Dat.ds_mk] at hi2)
        have hfin : Dat.IsL 52 (datOfL (ds.take (j + 1))) (ms' ++ [.ag [.c (.int .i64 k1), .c (.int .i64 n1), .c (.string s1), .sl a2 cap2 4 52 ms2]]) := by
          rw [datOfL_take HD.out]; exact HI'.out.snoc ⟨_, _, _, rfl, hi2⟩
        have hjj := HJ'.out
        have HFIN := Lib.hid hfin; clear hfin; have HM3 := Lib.hid hm3; clear hm3; have HI2 := Lib.hid hi2; clear hi2; have HM2 := Lib.hid hm2; clear hm2; have HQ3 := Lib.hid hq3; clear hq3; have HR3 := Lib.hid hr3; clear hr3; have HBA := Lib.hid hbA; clear hbA
        go_wp2_with fail
        go_roundw
        case rel =>
          refine ⟨j + 1, a3, cap3, ms' ++ [.ag [.c (.int .i64 k1), .c (.int .i64 n1), .c (.string s1), .sl a2 cap2 4 52 ms2]], by omega, by go_num, by simp [hjj], HFIN.out, ?_, ?_, ?_, ?_, ?_⟩
          · exact M.Mine.keep HM3.out (fun b hb1 hb2 => by simp (disch := (first | omega | (simp; omega))) only [heapSet])
          · have := HQ3.out.set3 (.slice a3 (ms'.length + 1) cap3); simpa [hjj] using this
          · exact HR3.out.far _ (by first | (simp; done) | (simp; omega))
          · (repeat (first | with_reducible assumption | with_reducible exact Below.refl _ _ | with_reducible refine Below.drew ?_ | with_reducible refine belowDrewN ?_ _ | ((with_reducible refine Below.setCell ?_ ?_ _); rotate_left; focus (first | omega | (simp; done) | (simp; omega))) | ((with_reducible refine Below.alloc ?_ ?_ _); rotate_left; focus (first | omega | (simp; done) | (simp; omega))) | ((with_reducible refine Below.trans ?_ (Below.mono hb2 ?_)); rotate_left; focus (first | omega | (simp; done) | (simp; omega))) | ((with_reducible refine Below.trans ?_ (Below.mono hb3 ?_)); rotate_left; focus (first | omega | (simp; done) | (simp; omega)))))
          · simp; omega
        case measure => simp [intOf]; omega
    · have HJ' := Lib.hid hj'; clear hj'
      have HQ := Lib.hid hq; clear hq
      have HR := Lib.hid hr; clear hr
      go_wp2_with fail
      refine bodyPost_ret (v := .agg #[.int .i64 k, .int .i64 n, .string s, .slice a' ms'.length cap']) (by simp [results, Try.results59, go_sem, q0, q1, q2, q3, r0, r1, r2, r3, HJ'.out]) rfl ?_
      have hk2 : j = ms.length := by omega
      subst hk2
      refine ⟨a', cap', ms', rfl, ?_, ?_, ?_⟩
      · rw [HL.out, List.take_length] at hi'
        exact hi'
      · (exact M.Mine.mono (M.Mine.keep hm' (fun b hb1 hb2 => by (try simp at hb1); simp (disch := (first | omega | (simp; omega))) only [heapSet, heapNew, heapDrew, heapDrewN])) (by first | omega | (simp; done) | (simp; omega)))
      · (repeat (first | with_reducible assumption | with_reducible exact Below.refl _ _ | with_reducible refine Below.drew ?_ | with_reducible refine belowDrewN ?_ _ | ((with_reducible refine Below.setCell ?_ ?_ _); rotate_left; focus (first | omega | (simp; done) | (simp; omega))) | ((with_reducible refine Below.alloc ?_ ?_ _); rotate_left; focus (first | omega | (simp; done) | (simp; omega))) | ((with_reducible refine Below.trans ?_ (Below.mono hb ?_)); rotate_left; focus (first | omega | (simp; done) | (simp; omega)))))
def iDoSs (ds : List Syn) : Prop := ∀ (k n : Int) (s : ByteArray) (x : List Int) (xa : Option Addr) (xc : Nat) (a : Option Addr) (cap : Nat) (ms : List M) (w : World), Syn.countL ds ≤ 1000000000 → Syn.IsL 27 ds ms → (M.sl a cap 5 27 ms).In w →
    Calls Try.prog 58 #[.agg #[.int .i64 k, .int .i64 n, .string s, .slice xa x.length xc, .slice a ms.length cap]] w (RetDat 52 (.mk k n s (datOfL ds)) w)
set_option maxHeartbeats 2000000 in
theorem iToDatum_calls : ∀ ds, iDoSs ds := by
  refine Syn.inductL fun ds ih => ?_
  intro k n s x xa xc a cap ms w hB hi hin
  have hl := hi.length
  have hcap := hin.len
  have hdl := Syn.length_le ds
  have IH := Lib.hid ih; clear ih; have HIN := Lib.hid hin; clear hin; have HI := Lib.hid hi; clear hi; have HL := Lib.hid hl; clear hl
  go_enter Try.func58, Try.ntmps58
  go_wp2_with fail
  go_loopw [16] (fun i wr => ∃ (j : Nat) (a' : Option Addr) (cap' : Nat) (ms' : List M), j ≤ ms.length ∧ i = .int .i64 j ∧ ms'.length = j ∧ Dat.IsL 52 (datOfL (ds.take j)) ms' ∧ (M.sl a' cap' 4 52 ms').Mine wr (w.heap.size + 1 + 1 + 1) ∧
      DBox (w.heap.size + 1 + 1) k n s (.slice a' ms'.length cap') wr ∧ DBox (w.heap.size + 1) 0 0 ⟨#[]⟩ (.slice none 0 0) wr ∧ Below w.heap.size w wr ∧ w.heap.size + 1 + 1 + 1 ≤ wr.heap.size) (fun i _ => ms.length - (intOf i).toNat)
  case atStart => exact ⟨0, none, 0, [], Nat.zero_le _, rfl, rfl, by simp [datOfL, Dat.IsL], M.Mine.nil _ _ _ _ (by decide), by constructor <;> simp [go_sem], by constructor <;> simp [go_sem], by (repeat (first | with_reducible assumption | with_reducible exact Below.refl _ _ | with_reducible refine Below.drew ?_ | with_reducible refine belowDrewN ?_ _ | ((with_reducible refine Below.setCell ?_ ?_ _); rotate_left; focus (first | omega | (simp; done) | (simp; omega))) | ((with_reducible refine Below.alloc ?_ ?_ _); rotate_left; focus (first | omega | (simp; done) | (simp; omega))))), by simp⟩
  case round =>
    obtain ⟨j, a', cap', ms', hj, rfl, hj', hi', hm', hq, hr, hb, hsz⟩ := hrel
    obtain ⟨q0, q1, q2, q3, e0, e1, e2, e3⟩ := hq
    obtain ⟨r0, r1, r2, r3, g0, g1, g2, g3⟩ := hr
    have hq : DBox (w.heap.size + 1 + 1) k n s (.slice a' ms'.length cap') wr := ⟨q0, q1, q2, q3, e0, e1, e2, e3⟩
    have hr : DBox (w.heap.size + 1) 0 0 ⟨#[]⟩ (.slice none 0 0) wr := ⟨r0, r1, r2, r3, g0, g1, g2, g3⟩
    have p3 := hq.lt
    have p2 := hr.lt
    by_cases hlt : j < ms.length
    · obtain ⟨b, off, k1, n1, s1, x1, ds1, xa1, xc1, a1, cap1, ms1, rfl, hd, hi1, hx1, hin1, c0, c1, c2, c3, c4⟩ := Syn.elem (HIN.out.below hb) HI.out j hlt
      obtain ⟨ht, hle⟩ := Syn.countL_le ds j _ hd
      simp only [Syn.count] at hle
      clear ht
      have HD := Lib.hid hd; clear hd; have HI1 := Lib.hid hi1; clear hi1; have HX1 := Lib.hid hx1; clear hx1; have HIN1 := Lib.hid hin1; clear hin1; have HJ' := Lib.hid hj'; clear hj'; have HI' := Lib.hid hi'; clear hi'; have HM' := Lib.hid hm'; clear hm'
      have HQ := Lib.hid hq; clear hq
      have HR := Lib.hid hr; clear hr
      go_wp2_with fail
      go_region_law (first
        | (go_simp; go_at_call 58; refine (IH.out k1 n1 s1 x1 ds1 (List.mem_of_getElem? HD.out) k1 n1 s1 x1 xa1 xc1 a1 cap1 ms1 _ (by omega) HI1.out (HIN1.out.below (by (repeat (first | with_reducible assumption | with_reducible exact Below.refl _ _ | with_reducible refine Below.drew ?_ | with_reducible refine belowDrewN ?_ _ | ((with_reducible refine Below.setCell ?_ ?_ _); rotate_left; focus (first | omega | (simp; done) | (simp; omega))) | ((with_reducible refine Below.alloc ?_ ?_ _); rotate_left; focus (first | omega | (simp; done) | (simp; omega)))))))).mono ?_; rintro e w1 ⟨a2, cap2, ms2, rfl, hi2, hm2, hb2⟩; obtain ⟨hc2, hf2⟩ := bcell hb2; have hz2 := hb2.size; (try simp only [World.size_alloc, World.size_setCell, World.size_drew, sizeDrewN] at hz2 hc2 hf2); have q3c : w1.cell? ⟨w.heap.size + 1 + 1, 3, none⟩ = some (.slice a' ms'.length cap') := (by simp (disch := omega) [hc2, q3, go_sem]); have p3c : w.heap.size + 1 + 1 < w1.heap.size := (by omega); (try simp only [Dat.k_mk, Dat.n_mk, Dat.s_mk, Dat.ds_mk, List.length_nil]))
        | (refine step_push (wr := wr) rfl _ _ 50 rfl 52 _ 4 56 Try.underlying50 infoDat rfl (by decide) (w.heap.size + 1 + 1 + 1) a' cap' ms' rfl HM'.out hsz (by (repeat (first | with_reducible assumption | with_reducible exact Below.refl _ _ | with_reducible refine Below.drew ?_ | with_reducible refine belowDrewN ?_ _ | ((with_reducible refine Below.setCell ?_ ?_ _); rotate_left; focus (first | omega | (simp; done) | (simp; omega))) | ((with_reducible refine Below.alloc ?_ ?_ _); rotate_left; focus (first | omega | (simp; done) | (simp; omega))) | ((with_reducible refine Below.trans ?_ (Below.mono hb2 ?_)); rotate_left; focus (first | omega | (simp; done) | (simp; omega)))))) _ (.ag [.c (.int .i64 k1), .c (.int .i64 n1), .c (.string s1), .sl a2 cap2 4 52 ms2]) (by simp [M.cells, M.cellsL, intM_length]) rfl _ (Dat.mine hm2) (by simp) rfl (by have := HJ'.out; unfold maxLen; omega) (by have := HJ'.out; have := HL.out; omega) ?_; intro a3 cap3 w3 hm3 hb3 hz3 hfr3; have q3' : w3.cell? ⟨w.heap.size + 1 + 1, 3, none⟩ = some (.slice a' ms'.length cap') := (by rw [hb3.cell (by first | (simp; done) | (simp; omega))]; simp (disch := omega) [hc2, q3, go_sem]); have qf' : w3.frozen? ⟨w.heap.size + 1 + 1, 3, none⟩ = false := (by rw [hb3.frozen (by first | (simp; done) | (simp; omega))]; simp (disch := omega) [hf2, e3, go_sem])))
      all_goals
        have hbA : Below wr.heap.size wr w1 := by (repeat (first | with_reducible assumption | with_reducible exact Below.refl _ _ | with_reducible refine Below.drew ?_ | with_reducible refine belowDrewN ?_ _ | ((with_reducible refine Below.setCell ?_ ?_ _); rotate_left; focus (first | omega | (simp; done) | (simp; omega))) | ((with_reducible refine Below.alloc ?_ ?_ _); rotate_left; focus (first | omega | (simp; done) | (simp; omega))) | ((with_reducible refine Below.trans ?_ (Below.mono hb2 ?_)); rotate_left; focus (first | omega | (simp; done) | (simp; omega)))))
        have hq3 := (HQ.out.below hbA p3).below hb3 (by omega)
        have hr3 := (HR.out.below hbA p2).below hb3 (by omega)
        (try simp only [Dat.k_mk, Dat.n_mk, Dat.s_mk, Dat.ds_mk] at hi2)
        have hfin : Dat.IsL 52 (datOfL (ds.take (j + 1))) (ms' ++ [.ag [.c (.int .i64 k1), .c (.int .i64 n1), .c (.string s1), .sl a2 cap2 4 52 ms2]]) := by
          rw [datOfL_take HD.out]; exact HI'.out.snoc ⟨_, _, _, rfl, hi2⟩
        have hjj := HJ'.out
        have HFIN := Lib.hid hfin; clear hfin; have HM3 := Lib.hid hm3; clear hm3; have HI2 := Lib.hid hi2; clear hi2; have HM2 := Lib.hid hm2; clear hm2; have HQ3 := Lib.hid hq3; clear hq3; have HR3 := Lib.hid hr3; clear hr3; have HBA := Lib.hid hbA; clear hbA
        go_wp2_with fail
        go_roundw
        case rel =>
          refine ⟨j + 1, a3, cap3, ms' ++ [.ag [.c (.int .i64 k1), .c (.int .i64 n1), .c (.string s1), .sl a2 cap2 4 52 ms2]], by omega, by go_num, by simp [hjj], HFIN.out, ?_, ?_, ?_, ?_, ?_⟩
          · exact M.Mine.keep HM3.out (fun b hb1 hb2 => by simp (disch := (first | omega | (simp; omega))) only [heapSet])
          · have := HQ3.out.set3 (.slice a3 (ms'.length + 1) cap3); simpa [hjj] using this
          · exact HR3.out.far _ (by first | (simp; done) | (simp; omega))
          · (repeat (first | with_reducible assumption | with_reducible exact Below.refl _ _ | with_reducible refine Below.drew ?_ | with_reducible refine belowDrewN ?_ _ | ((with_reducible refine Below.setCell ?_ ?_ _); rotate_left; focus (first | omega | (simp; done) | (simp; omega))) | ((with_reducible refine Below.alloc ?_ ?_ _); rotate_left; focus (first | omega | (simp; done) | (simp; omega))) | ((with_reducible refine Below.trans ?_ (Below.mono hb2 ?_)); rotate_left; focus (first | omega | (simp; done) | (simp; omega))) | ((with_reducible refine Below.trans ?_ (Below.mono hb3 ?_)); rotate_left; focus (first | omega | (simp; done) | (simp; omega)))))
          · simp; omega
        case measure => simp [intOf]; omega
    · have HJ' := Lib.hid hj'; clear hj'
      have HQ := Lib.hid hq; clear hq
      have HR := Lib.hid hr; clear hr
      go_wp2_with fail
      refine bodyPost_ret (v := .agg #[.int .i64 k, .int .i64 n, .string s, .slice a' ms'.length cap']) (by simp [results, Try.results58, go_sem, q0, q1, q2, q3, r0, r1, r2, r3, HJ'.out]) rfl ?_
      have hk2 : j = ms.length := by omega
      subst hk2
      refine ⟨a', cap', ms', rfl, ?_, ?_, ?_⟩
      · rw [HL.out, List.take_length] at hi'
        exact hi'
      · (exact M.Mine.mono (M.Mine.keep hm' (fun b hb1 hb2 => by (try simp at hb1); simp (disch := (first | omega | (simp; omega))) only [heapSet, heapNew, heapDrew, heapDrewN])) (by first | omega | (simp; done) | (simp; omega)))
      · (repeat (first | with_reducible assumption | with_reducible exact Below.refl _ _ | with_reducible refine Below.drew ?_ | with_reducible refine belowDrewN ?_ _ | ((with_reducible refine Below.setCell ?_ ?_ _); rotate_left; focus (first | omega | (simp; done) | (simp; omega))) | ((with_reducible refine Below.alloc ?_ ?_ _); rotate_left; focus (first | omega | (simp; done) | (simp; omega))) | ((with_reducible refine Below.trans ?_ (Below.mono hb ?_)); rotate_left; focus (first | omega | (simp; done) | (simp; omega)))))
set_option maxHeartbeats 1000000 in
theorem sDatumOf_calls (k n : Int) (s : ByteArray) (x : List Int) (ds : List Syn) (xa : Option Addr) (xc : Nat) (a : Option Addr) (cap : Nat) (ms : List M) (w : World) (hwf : (Syn.mk k n s x ds).wf) (hB : Syn.countL ds ≤ 1000000000) (hi : Syn.IsL 27 ds ms) (hown : (SynOwn 27 xa xc x a cap ms).In w) :
    Calls Try.prog 24 #[.agg #[.int .i64 k, .int .i64 n, .string s, .slice xa x.length xc, .slice a ms.length cap]] w (RetDat 52 (datG k n s x ds) w) := by
  have hin := SynIn_ms hown
  have hcap := hin.len
  have HI := Lib.hid hi; clear hi; have HOWN := Lib.hid hown; clear hown; have HIN := Lib.hid hin; clear hin; have HWF := Lib.hid hwf; clear hwf
  go_enter Try.func24, Try.ntmps24
  go_wp2_with fail
  refine (sIsSyntax_calls k n s x ds xa xc a cap ms _ HWF.out hB HI.out (HOWN.out.below (by (repeat (first | with_reducible assumption | with_reducible exact Below.refl _ _ | with_reducible refine Below.drew ?_ | with_reducible refine belowDrewN ?_ _ | ((with_reducible refine Below.setCell ?_ ?_ _); rotate_left; focus (first | omega | (simp; done) | (simp; omega))) | ((with_reducible refine Below.alloc ?_ ?_ _); rotate_left; focus (first | omega | (simp; done) | (simp; omega)))))))).mono ?_
  rintro e w1 ⟨rfl, hb1⟩
  obtain ⟨hc1, hf1⟩ := bcell hb1; have hz1 := hb1.size; (try simp only [World.size_alloc, World.size_setCell, World.size_drew, sizeDrewN] at hz1 hc1 hf1)
  have p0 : w.heap.size < w1.heap.size := by omega
  have p1 : w.heap.size + 1 < w1.heap.size := by omega
  have hq : SBox w.heap.size k n s (.slice xa x.length xc) (.slice a ms.length cap) w1 := by constructor <;> first | (simp (disch := omega) [hc1, hf1, go_sem]; done) | (simp (disch := omega) [hc1, hf1, go_sem]; rfl)
  have hr : DBox (w.heap.size + 1) 0 0 ⟨#[]⟩ (.slice none 0 0) w1 := by constructor <;> first | (simp (disch := omega) [hc1, hf1, go_sem]; done) | (simp (disch := omega) [hc1, hf1, go_sem]; rfl)
  obtain ⟨q0, q1, q2, q3, q4, e0, e1, e2, e3, e4⟩ := hq
  obtain ⟨r0, r1, r2, r3, g0, g1, g2, g3⟩ := hr
  clear hc1 hf1
  cases hv : isSynB k n s x ds with
  | false =>
    have hg := datG_no hv
    have HV := Lib.hid hv; clear hv; have HG := Lib.hid hg; clear hg
    go_wp2_with fail
    refine bodyPost_ret (v := .agg #[.int .i64 0, .int .i64 0, .string ⟨#[]⟩, .slice none 0 0]) (by simp [results, Try.results24, go_sem, q0, q1, q2, q3, q4, r0, r1, r2, r3]) rfl ?_
    rw [HG.out]
    refine ⟨none, 0, [], rfl, rfl, ?_, ?_⟩
    · exact M.Mine.nil _ _ _ _ (by decide)
    · (repeat (first | with_reducible assumption | with_reducible exact Below.refl _ _ | with_reducible refine Below.drew ?_ | with_reducible refine belowDrewN ?_ _ | ((with_reducible refine Below.setCell ?_ ?_ _); rotate_left; focus (first | omega | (simp; done) | (simp; omega))) | ((with_reducible refine Below.alloc ?_ ?_ _); rotate_left; focus (first | omega | (simp; done) | (simp; omega))) | ((with_reducible refine Below.trans ?_ (Below.mono hb1 ?_)); rotate_left; focus (first | omega | (simp; done) | (simp; omega)))))
  | true =>
    have hg := datG_yes hv
    have HV := Lib.hid hv; clear hv; have HG := Lib.hid hg; clear hg
    go_wp2_with fail
    refine (l2Datum_calls ds k n s x xa xc a cap ms _ hB HI.out (HIN.out.below (by (repeat (first | with_reducible assumption | with_reducible exact Below.refl _ _ | with_reducible refine Below.drew ?_ | with_reducible refine belowDrewN ?_ _ | ((with_reducible refine Below.setCell ?_ ?_ _); rotate_left; focus (first | omega | (simp; done) | (simp; omega))) | ((with_reducible refine Below.alloc ?_ ?_ _); rotate_left; focus (first | omega | (simp; done) | (simp; omega))) | ((with_reducible refine Below.trans ?_ (Below.mono hb1 ?_)); rotate_left; focus (first | omega | (simp; done) | (simp; omega)))))))).mono ?_
    rintro e w2 ⟨a2, cap2, ms2, rfl, hi2, hm2, hb2⟩
    obtain ⟨hc2, hf2⟩ := bcell hb2; have hz2 := hb2.size; (try simp only [World.size_alloc, World.size_setCell, World.size_drew, sizeDrewN] at hz2 hc2 hf2)
    simp only [Dat.k_mk, Dat.n_mk, Dat.s_mk, Dat.ds_mk] at hi2 ⊢
    have hr : DBox (w.heap.size + 1) 0 0 ⟨#[]⟩ (.slice none 0 0) w2 := by constructor <;> simp (disch := omega) [hc2, hf2, r0, r1, r2, r3, g0, g1, g2, g3]
    obtain ⟨s0, s1, s2, s3, h0, h1, h2, h3⟩ := hr
    have HI2 := Lib.hid hi2; clear hi2; have HM2 := Lib.hid hm2; clear hm2
    go_wp2_with fail
    refine bodyPost_ret (v := .agg #[.int .i64 k, .int .i64 n, .string s, .slice a2 ms2.length cap2]) (by simp [results, Try.results24, go_sem, s0, s1, s2, s3]) rfl ?_
    refine ⟨a2, cap2, ms2, by rw [HG.out]; rfl, by rw [HG.out]; exact HI2.out, ?_, ?_⟩
    · (exact M.Mine.mono (M.Mine.keep HM2.out (fun b hb1 hb2 => by (try simp at hb1); simp (disch := (first | omega | (simp; omega))) only [heapSet, heapNew, heapDrew, heapDrewN])) (by first | omega | (simp; done) | (simp; omega)))
    · (repeat (first | with_reducible assumption | with_reducible exact Below.refl _ _ | with_reducible refine Below.drew ?_ | with_reducible refine belowDrewN ?_ _ | ((with_reducible refine Below.setCell ?_ ?_ _); rotate_left; focus (first | omega | (simp; done) | (simp; omega))) | ((with_reducible refine Below.alloc ?_ ?_ _); rotate_left; focus (first | omega | (simp; done) | (simp; omega))) | ((with_reducible refine Below.trans ?_ (Below.mono hb1 ?_)); rotate_left; focus (first | omega | (simp; done) | (simp; omega))) | ((with_reducible refine Below.trans ?_ (Below.mono hb2 ?_)); rotate_left; focus (first | omega | (simp; done) | (simp; omega)))))
set_option maxHeartbeats 1000000 in
theorem iDatumOf_calls (k n : Int) (s : ByteArray) (x : List Int) (ds : List Syn) (xa : Option Addr) (xc : Nat) (a : Option Addr) (cap : Nat) (ms : List M) (w : World) (hwf : (Syn.mk k n s x ds).wf) (hB : Syn.countL ds ≤ 1000000000) (hi : Syn.IsL 27 ds ms) (hown : (SynOwn 27 xa xc x a cap ms).In w) :
    Calls Try.prog 23 #[.agg #[.int .i64 k, .int .i64 n, .string s, .slice xa x.length xc, .slice a ms.length cap]] w (RetDat 52 (datG k n s x ds) w) := by
  have hin := SynIn_ms hown
  have hcap := hin.len
  have HI := Lib.hid hi; clear hi; have HOWN := Lib.hid hown; clear hown; have HIN := Lib.hid hin; clear hin; have HWF := Lib.hid hwf; clear hwf
  go_enter Try.func23, Try.ntmps23
  go_wp2_with fail
  refine (iIsSyntax_calls k n s x ds xa xc a cap ms _ HWF.out hB HI.out (HOWN.out.below (by (repeat (first | with_reducible assumption | with_reducible exact Below.refl _ _ | with_reducible refine Below.drew ?_ | with_reducible refine belowDrewN ?_ _ | ((with_reducible refine Below.setCell ?_ ?_ _); rotate_left; focus (first | omega | (simp; done) | (simp; omega))) | ((with_reducible refine Below.alloc ?_ ?_ _); rotate_left; focus (first | omega | (simp; done) | (simp; omega)))))))).mono ?_
  rintro e w1 ⟨rfl, hb1⟩
  obtain ⟨hc1, hf1⟩ := bcell hb1; have hz1 := hb1.size; (try simp only [World.size_alloc, World.size_setCell, World.size_drew, sizeDrewN] at hz1 hc1 hf1)
  have p0 : w.heap.size < w1.heap.size := by omega
  have p1 : w.heap.size + 1 < w1.heap.size := by omega
  have hq : SBox w.heap.size k n s (.slice xa x.length xc) (.slice a ms.length cap) w1 := by constructor <;> first | (simp (disch := omega) [hc1, hf1, go_sem]; done) | (simp (disch := omega) [hc1, hf1, go_sem]; rfl)
  have hr : DBox (w.heap.size + 1) 0 0 ⟨#[]⟩ (.slice none 0 0) w1 := by constructor <;> first | (simp (disch := omega) [hc1, hf1, go_sem]; done) | (simp (disch := omega) [hc1, hf1, go_sem]; rfl)
  obtain ⟨q0, q1, q2, q3, q4, e0, e1, e2, e3, e4⟩ := hq
  obtain ⟨r0, r1, r2, r3, g0, g1, g2, g3⟩ := hr
  clear hc1 hf1
  cases hv : isSynB k n s x ds with
  | false =>
    have hg := datG_no hv
    have HV := Lib.hid hv; clear hv; have HG := Lib.hid hg; clear hg
    go_wp2_with fail
    refine bodyPost_ret (v := .agg #[.int .i64 0, .int .i64 0, .string ⟨#[]⟩, .slice none 0 0]) (by simp [results, Try.results23, go_sem, q0, q1, q2, q3, q4, r0, r1, r2, r3]) rfl ?_
    rw [HG.out]
    refine ⟨none, 0, [], rfl, rfl, ?_, ?_⟩
    · exact M.Mine.nil _ _ _ _ (by decide)
    · (repeat (first | with_reducible assumption | with_reducible exact Below.refl _ _ | with_reducible refine Below.drew ?_ | with_reducible refine belowDrewN ?_ _ | ((with_reducible refine Below.setCell ?_ ?_ _); rotate_left; focus (first | omega | (simp; done) | (simp; omega))) | ((with_reducible refine Below.alloc ?_ ?_ _); rotate_left; focus (first | omega | (simp; done) | (simp; omega))) | ((with_reducible refine Below.trans ?_ (Below.mono hb1 ?_)); rotate_left; focus (first | omega | (simp; done) | (simp; omega)))))
  | true =>
    have hg := datG_yes hv
    have HV := Lib.hid hv; clear hv; have HG := Lib.hid hg; clear hg
    go_wp2_with fail
    refine (iToDatum_calls ds k n s x xa xc a cap ms _ hB HI.out (HIN.out.below (by (repeat (first | with_reducible assumption | with_reducible exact Below.refl _ _ | with_reducible refine Below.drew ?_ | with_reducible refine belowDrewN ?_ _ | ((with_reducible refine Below.setCell ?_ ?_ _); rotate_left; focus (first | omega | (simp; done) | (simp; omega))) | ((with_reducible refine Below.alloc ?_ ?_ _); rotate_left; focus (first | omega | (simp; done) | (simp; omega))) | ((with_reducible refine Below.trans ?_ (Below.mono hb1 ?_)); rotate_left; focus (first | omega | (simp; done) | (simp; omega)))))))).mono ?_
    rintro e w2 ⟨a2, cap2, ms2, rfl, hi2, hm2, hb2⟩
    obtain ⟨hc2, hf2⟩ := bcell hb2; have hz2 := hb2.size; (try simp only [World.size_alloc, World.size_setCell, World.size_drew, sizeDrewN] at hz2 hc2 hf2)
    simp only [Dat.k_mk, Dat.n_mk, Dat.s_mk, Dat.ds_mk] at hi2 ⊢
    have hr : DBox (w.heap.size + 1) 0 0 ⟨#[]⟩ (.slice none 0 0) w2 := by constructor <;> simp (disch := omega) [hc2, hf2, r0, r1, r2, r3, g0, g1, g2, g3]
    obtain ⟨s0, s1, s2, s3, h0, h1, h2, h3⟩ := hr
    have HI2 := Lib.hid hi2; clear hi2; have HM2 := Lib.hid hm2; clear hm2
    go_wp2_with fail
    refine bodyPost_ret (v := .agg #[.int .i64 k, .int .i64 n, .string s, .slice a2 ms2.length cap2]) (by simp [results, Try.results23, go_sem, s0, s1, s2, s3]) rfl ?_
    refine ⟨a2, cap2, ms2, by rw [HG.out]; rfl, by rw [HG.out]; exact HI2.out, ?_, ?_⟩
    · (exact M.Mine.mono (M.Mine.keep HM2.out (fun b hb1 hb2 => by (try simp at hb1); simp (disch := (first | omega | (simp; omega))) only [heapSet, heapNew, heapDrew, heapDrewN])) (by first | omega | (simp; done) | (simp; omega)))
    · (repeat (first | with_reducible assumption | with_reducible exact Below.refl _ _ | with_reducible refine Below.drew ?_ | with_reducible refine belowDrewN ?_ _ | ((with_reducible refine Below.setCell ?_ ?_ _); rotate_left; focus (first | omega | (simp; done) | (simp; omega))) | ((with_reducible refine Below.alloc ?_ ?_ _); rotate_left; focus (first | omega | (simp; done) | (simp; omega))) | ((with_reducible refine Below.trans ?_ (Below.mono hb1 ?_)); rotate_left; focus (first | omega | (simp; done) | (simp; omega))) | ((with_reducible refine Below.trans ?_ (Below.mono hb2 ?_)); rotate_left; focus (first | omega | (simp; done) | (simp; omega)))))
end Go.Proofs.Ytghbnehocggnnaa

/-
  Walks: two lists of scopes compared. No condition.
-/
set_option linter.unusedVariables false
set_option linter.unusedSimpArgs false
set_option maxRecDepth 100000
namespace Go.Proofs.Ytghbnehocggnnaa
open Go.RowKit

/-- It hands back v and only draws. -/
def RetQ (v : Value) (w : World) (e : Ending) (w' : World) : Prop := e = .returned v ∧ ∃ m, w' = w.drewN m
theorem RetQ.ret {v : Value} {w : World} {e : Ending} {w' : World} (h : RetQ v w e w') : Ret v w e w' := by
  obtain ⟨h1, m, rfl⟩ := h
  exact ⟨h1, belowDrewN (Below.refl _ _) m⟩
theorem drewN2 (w : World) (m n : Nat) : ∃ k, (w.drewN m).drewN n = w.drewN k := ⟨m + n, World.drewN_drewN ..⟩
theorem below_ex {w wr : World} (h : ∃ m, wr = w.drewN m) : Below w.heap.size w wr := by obtain ⟨m, rfl⟩ := h; exact belowDrewN (Below.refl _ _) m
theorem ex_drew {w wr : World} (h : ∃ m, wr = w.drewN m) (n : Nat) : ∃ m, wr.drewN n = w.drewN m := by obtain ⟨m, rfl⟩ := h; exact drewN2 w m n
theorem l2SameInts_q (a : Option Addr) (cap : Nat) (l : List Int) (a2 : Option Addr) (cap2 : Nat) (r : List Int) (w : World) (h : (M.sl a cap 1 3 (intM l)).In w) (h2 : (M.sl a2 cap2 1 3 (intM r)).In w) :
    Calls Try.prog 44 #[.slice a l.length cap, .slice a2 r.length cap2] w (RetQ (.bool (eqL l r)) w) := by
  have hl := Ints.len h
  have hr := Ints.len h2
  by_cases he : l.length = r.length
  · have hb : ((l.length : Int) != (r.length : Int)) = false := by simp [he]
    have H := Lib.hid h; clear h; have H2 := Lib.hid h2; clear h2; have HE := Lib.hid he; clear he
    go_enter Try.func44, Try.ntmps44
    go_wp2
    go_loopw [13] (fun i wr => ∃ k : Nat, k ≤ l.length ∧ i = .int .i64 k ∧ l.take k = r.take k ∧ ∃ m, wr = w.drewN m) (fun i _ => l.length - (intOf i).toNat)
    case atStart => exact ⟨0, Nat.zero_le _, rfl, by simp, 0, rfl⟩
    case round =>
      obtain ⟨k, hk, rfl, hno, hex⟩ := hrel
      have hbl := below_ex hex
      have HNO := Lib.hid hno; clear hno
      by_cases hlt : k < l.length
      · have hlt2 : k < r.length := by have := HE.out; omega
        obtain ⟨b, off, x, rfl, hx, hc⟩ := Ints.elem (H.out.below hbl) k hlt
        obtain ⟨b2, off2, y, rfl, hy, hc2⟩ := Ints.elem (H2.out.below hbl) k hlt2
        have HX := Lib.hid hx; clear hx; have HY := Lib.hid hy; clear hy
        by_cases hxy : x = y
        · have e1 : (x != y) = false := by simp [hxy]
          have HXY := Lib.hid hxy; clear hxy
          go_wp2_with fail
          go_quiet (fail)
          go_wp2_with fail
          have hnx : l.take (k + 1) = r.take (k + 1) := take_eq_succ HNO.out HX.out HY.out HXY.out
          go_roundw
          case rel => exact ⟨k + 1, by omega, by go_num, hnx, ex_drew hex _⟩
          case measure => simp [intOf]; omega
        · have e1 : (x != y) = true := by simp [hxy]
          have HXY := Lib.hid hxy; clear hxy
          go_wp2_with fail
          go_quiet (fail)
          go_wp2_with fail
          go_ret
          exact ⟨ret_b ((eqL_not _ _).2 (ne_of_get HX.out HY.out HXY.out)).symm, ex_drew hex _⟩
      · go_wp2
        go_ret
        have hk2 : k = l.length := by omega
        subst hk2
        refine ⟨ret_b ((eqL_iff _ _).2 ?_).symm, hex⟩
        have h := HNO.out
        rw [List.take_length, HE.out, List.take_length] at h
        exact h
  · have hb : ((l.length : Int) != (r.length : Int)) = true := by simp; omega
    have H := Lib.hid h; clear h; have H2 := Lib.hid h2; clear h2; have HE := Lib.hid he; clear he
    go_enter Try.func44, Try.ntmps44
    go_wp2
    go_ret
    exact ⟨ret_b ((eqL_not _ _).2 (fun e => HE.out (by rw [e]))).symm, 0, rfl⟩
theorem l2SameInts_calls (a : Option Addr) (cap : Nat) (l : List Int) (a2 : Option Addr) (cap2 : Nat) (r : List Int) (w : World) (h : (M.sl a cap 1 3 (intM l)).In w) (h2 : (M.sl a2 cap2 1 3 (intM r)).In w) :
    Calls Try.prog 44 #[.slice a l.length cap, .slice a2 r.length cap2] w (Ret (.bool (eqL l r)) w) := (l2SameInts_q a cap l a2 cap2 r w h h2).mono fun _ _ h => h.ret
theorem sameInts_q (a : Option Addr) (cap : Nat) (l : List Int) (a2 : Option Addr) (cap2 : Nat) (r : List Int) (w : World) (h : (M.sl a cap 1 3 (intM l)).In w) (h2 : (M.sl a2 cap2 1 3 (intM r)).In w) :
    Calls Try.prog 57 #[.slice a l.length cap, .slice a2 r.length cap2] w (RetQ (.bool (eqL l r)) w) := by
  have hl := Ints.len h
  have hr := Ints.len h2
  by_cases he : l.length = r.length
  · have hb : ((l.length : Int) != (r.length : Int)) = false := by simp [he]
    have H := Lib.hid h; clear h; have H2 := Lib.hid h2; clear h2; have HE := Lib.hid he; clear he
    go_enter Try.func57, Try.ntmps57
    go_wp2
    go_loopw [13] (fun i wr => ∃ k : Nat, k ≤ l.length ∧ i = .int .i64 k ∧ l.take k = r.take k ∧ ∃ m, wr = w.drewN m) (fun i _ => l.length - (intOf i).toNat)
    case atStart => exact ⟨0, Nat.zero_le _, rfl, by simp, 0, rfl⟩
    case round =>
      obtain ⟨k, hk, rfl, hno, hex⟩ := hrel
      have hbl := below_ex hex
      have HNO := Lib.hid hno; clear hno
      by_cases hlt : k < l.length
      · have hlt2 : k < r.length := by have := HE.out; omega
        obtain ⟨b, off, x, rfl, hx, hc⟩ := Ints.elem (H.out.below hbl) k hlt
        obtain ⟨b2, off2, y, rfl, hy, hc2⟩ := Ints.elem (H2.out.below hbl) k hlt2
        have HX := Lib.hid hx; clear hx; have HY := Lib.hid hy; clear hy
        by_cases hxy : x = y
        · have e1 : (x != y) = false := by simp [hxy]
          have HXY := Lib.hid hxy; clear hxy
          go_wp2_with fail
          go_quiet (fail)
          go_wp2_with fail
          have hnx : l.take (k + 1) = r.take (k + 1) := take_eq_succ HNO.out HX.out HY.out HXY.out
          go_roundw
          case rel => exact ⟨k + 1, by omega, by go_num, hnx, ex_drew hex _⟩
          case measure => simp [intOf]; omega
        · have e1 : (x != y) = true := by simp [hxy]
          have HXY := Lib.hid hxy; clear hxy
          go_wp2_with fail
          go_quiet (fail)
          go_wp2_with fail
          go_ret
          exact ⟨ret_b ((eqL_not _ _).2 (ne_of_get HX.out HY.out HXY.out)).symm, ex_drew hex _⟩
      · go_wp2
        go_ret
        have hk2 : k = l.length := by omega
        subst hk2
        refine ⟨ret_b ((eqL_iff _ _).2 ?_).symm, hex⟩
        have h := HNO.out
        rw [List.take_length, HE.out, List.take_length] at h
        exact h
  · have hb : ((l.length : Int) != (r.length : Int)) = true := by simp; omega
    have H := Lib.hid h; clear h; have H2 := Lib.hid h2; clear h2; have HE := Lib.hid he; clear he
    go_enter Try.func57, Try.ntmps57
    go_wp2
    go_ret
    exact ⟨ret_b ((eqL_not _ _).2 (fun e => HE.out (by rw [e]))).symm, 0, rfl⟩
theorem sameInts_calls (a : Option Addr) (cap : Nat) (l : List Int) (a2 : Option Addr) (cap2 : Nat) (r : List Int) (w : World) (h : (M.sl a cap 1 3 (intM l)).In w) (h2 : (M.sl a2 cap2 1 3 (intM r)).In w) :
    Calls Try.prog 57 #[.slice a l.length cap, .slice a2 r.length cap2] w (Ret (.bool (eqL l r)) w) := (sameInts_q a cap l a2 cap2 r w h h2).mono fun _ _ h => h.ret
theorem lawInts_q (a : Option Addr) (cap : Nat) (l : List Int) (a2 : Option Addr) (cap2 : Nat) (r : List Int) (w : World) (h : (M.sl a cap 1 3 (intM l)).In w) (h2 : (M.sl a2 cap2 1 3 (intM r)).In w) :
    Calls Try.prog 10 #[.slice a l.length cap, .slice a2 r.length cap2] w (RetQ (.bool (eqL l r)) w) := by
  have hl := Ints.len h
  have hr := Ints.len h2
  by_cases he : l.length = r.length
  · have hb : ((l.length : Int) != (r.length : Int)) = false := by simp [he]
    have H := Lib.hid h; clear h; have H2 := Lib.hid h2; clear h2; have HE := Lib.hid he; clear he
    go_enter Try.func10, Try.ntmps10
    go_wp2
    go_loopw [13] (fun i wr => ∃ k : Nat, k ≤ l.length ∧ i = .int .i64 k ∧ l.take k = r.take k ∧ ∃ m, wr = w.drewN m) (fun i _ => l.length - (intOf i).toNat)
    case atStart => exact ⟨0, Nat.zero_le _, rfl, by simp, 0, rfl⟩
    case round =>
      obtain ⟨k, hk, rfl, hno, hex⟩ := hrel
      have hbl := below_ex hex
      have HNO := Lib.hid hno; clear hno
      by_cases hlt : k < l.length
      · have hlt2 : k < r.length := by have := HE.out; omega
        obtain ⟨b, off, x, rfl, hx, hc⟩ := Ints.elem (H.out.below hbl) k hlt
        obtain ⟨b2, off2, y, rfl, hy, hc2⟩ := Ints.elem (H2.out.below hbl) k hlt2
        have HX := Lib.hid hx; clear hx; have HY := Lib.hid hy; clear hy
        by_cases hxy : x = y
        · have e1 : (x != y) = false := by simp [hxy]
          have HXY := Lib.hid hxy; clear hxy
          go_wp2_with fail
          go_quiet (fail)
          go_wp2_with fail
          have hnx : l.take (k + 1) = r.take (k + 1) := take_eq_succ HNO.out HX.out HY.out HXY.out
          go_roundw
          case rel => exact ⟨k + 1, by omega, by go_num, hnx, ex_drew hex _⟩
          case measure => simp [intOf]; omega
        · have e1 : (x != y) = true := by simp [hxy]
          have HXY := Lib.hid hxy; clear hxy
          go_wp2_with fail
          go_quiet (fail)
          go_wp2_with fail
          go_ret
          exact ⟨ret_b ((eqL_not _ _).2 (ne_of_get HX.out HY.out HXY.out)).symm, ex_drew hex _⟩
      · go_wp2
        go_ret
        have hk2 : k = l.length := by omega
        subst hk2
        refine ⟨ret_b ((eqL_iff _ _).2 ?_).symm, hex⟩
        have h := HNO.out
        rw [List.take_length, HE.out, List.take_length] at h
        exact h
  · have hb : ((l.length : Int) != (r.length : Int)) = true := by simp; omega
    have H := Lib.hid h; clear h; have H2 := Lib.hid h2; clear h2; have HE := Lib.hid he; clear he
    go_enter Try.func10, Try.ntmps10
    go_wp2
    go_ret
    exact ⟨ret_b ((eqL_not _ _).2 (fun e => HE.out (by rw [e]))).symm, 0, rfl⟩
theorem lawInts_calls (a : Option Addr) (cap : Nat) (l : List Int) (a2 : Option Addr) (cap2 : Nat) (r : List Int) (w : World) (h : (M.sl a cap 1 3 (intM l)).In w) (h2 : (M.sl a2 cap2 1 3 (intM r)).In w) :
    Calls Try.prog 10 #[.slice a l.length cap, .slice a2 r.length cap2] w (Ret (.bool (eqL l r)) w) := (lawInts_q a cap l a2 cap2 r w h h2).mono fun _ _ h => h.ret
end Go.Proofs.Ytghbnehocggnnaa

/-
  Walks: IsEllipsis, SameIdentifier. No condition.
-/
set_option linter.unusedVariables false
set_option linter.unusedSimpArgs false
set_option maxRecDepth 100000
namespace Go.Proofs.Ytghbnehocggnnaa
open Go.RowKit

noncomputable def isEllB (k n : Int) (s : ByteArray) (x : List Int) (ds : List Syn) : Bool := isIdB k n s x ds && isDotsB k s
open Classical in
noncomputable def eqTx (s t : ByteArray) : Bool := decide (s = t)
theorem eqTx_yes {s t : ByteArray} (h : s = t) : eqTx s t = true := by simp [eqTx, h]
theorem eqTx_no {s t : ByteArray} (h : ¬ s = t) : eqTx s t = false := by simp [eqTx, h]
noncomputable def sameIdB (s s' : ByteArray) (x x' : List Int) : Bool := eqTx s s' && eqL x x'
theorem sameName_calls (k n : Int) (s : ByteArray) (x : List Int) (xa : Option Addr) (xc : Nat) (a : Option Addr) (l cap : Nat) (k' n' : Int) (s' : ByteArray) (x' : List Int) (xa' : Option Addr) (xc' : Nat) (a' : Option Addr) (l' cap' : Nat) (w : World) (hx : (M.sl xa xc 1 3 (intM x)).In w) (hx' : (M.sl xa' xc' 1 3 (intM x')).In w) :
    Calls Try.prog 100 #[.agg #[.int .i64 k, .int .i64 n, .string s, .slice xa x.length xc, .slice a l cap], .agg #[.int .i64 k', .int .i64 n', .string s', .slice xa' x'.length xc', .slice a' l' cap']] w (Ret (.bool ((k == 1) && ((k' == 1) && sameIdB s s' x x'))) w) := by
  have HX := Lib.hid hx; clear hx; have HX' := Lib.hid hx'; clear hx'
  by_cases hk : k = 1
  · have h1 : (k == 1) = true := by simp [hk]
    by_cases hk' : k' = 1
    · have h2 : (k' == 1) = true := by simp [hk']
      by_cases hs : s = s'
      · subst hs
        have hv : ((k == 1) && ((k' == 1) && sameIdB s s x x')) = eqL x x' := by unfold sameIdB; rw [h1, h2, eqTx_yes rfl, Bool.true_and, Bool.true_and, Bool.true_and]
        have HV := Lib.hid hv; clear hv; have HK := Lib.hid hk; clear hk; have HK' := Lib.hid hk'; clear hk'
        go_enter Try.func100, Try.ntmps100
        go_wp2_with fail
        refine (sameInts_calls xa xc x xa' xc' x' _ (HX.out.below (by (repeat (first | with_reducible assumption | with_reducible exact Below.refl _ _ | with_reducible refine Below.drew ?_ | with_reducible refine belowDrewN ?_ _ | ((with_reducible refine Below.setCell ?_ ?_ _); rotate_left; focus (first | omega | (simp; done) | (simp; omega))) | ((with_reducible refine Below.alloc ?_ ?_ _); rotate_left; focus (first | omega | (simp; done) | (simp; omega))))))) (HX'.out.below (by (repeat (first | with_reducible assumption | with_reducible exact Below.refl _ _ | with_reducible refine Below.drew ?_ | with_reducible refine belowDrewN ?_ _ | ((with_reducible refine Below.setCell ?_ ?_ _); rotate_left; focus (first | omega | (simp; done) | (simp; omega))) | ((with_reducible refine Below.alloc ?_ ?_ _); rotate_left; focus (first | omega | (simp; done) | (simp; omega)))))))).mono ?_
        rintro e w1 ⟨rfl, hb1⟩
        go_wp2_with fail
        go_ret
        exact ⟨ret_b HV.out.symm, by (repeat (first | with_reducible assumption | with_reducible exact Below.refl _ _ | with_reducible refine Below.drew ?_ | with_reducible refine belowDrewN ?_ _ | ((with_reducible refine Below.setCell ?_ ?_ _); rotate_left; focus (first | omega | (simp; done) | (simp; omega))) | ((with_reducible refine Below.alloc ?_ ?_ _); rotate_left; focus (first | omega | (simp; done) | (simp; omega))) | ((with_reducible refine Below.trans ?_ (Below.mono hb1 ?_)); rotate_left; focus (first | omega | (simp; done) | (simp; omega)))))⟩
      · have hs' := ba_ne hs
        have hv : ((k == 1) && ((k' == 1) && sameIdB s s' x x')) = false := by unfold sameIdB; rw [h1, h2, eqTx_no hs]; rfl
        have HV := Lib.hid hv; clear hv; have HS := Lib.hid hs; clear hs; have HK := Lib.hid hk; clear hk; have HK' := Lib.hid hk'; clear hk'
        go_enter Try.func100, Try.ntmps100
        go_wp2_with fail
        go_ret
        exact ⟨ret_b HV.out.symm, by (repeat (first | with_reducible assumption | with_reducible exact Below.refl _ _ | with_reducible refine Below.drew ?_ | with_reducible refine belowDrewN ?_ _ | ((with_reducible refine Below.setCell ?_ ?_ _); rotate_left; focus (first | omega | (simp; done) | (simp; omega))) | ((with_reducible refine Below.alloc ?_ ?_ _); rotate_left; focus (first | omega | (simp; done) | (simp; omega)))))⟩
    · have h2 : (k' == 1) = false := by simp [hk']
      have hv : ((k == 1) && ((k' == 1) && sameIdB s s' x x')) = false := by rw [h1, h2]; rfl
      have HV := Lib.hid hv; clear hv; have HK := Lib.hid hk; clear hk; have HK' := Lib.hid hk'; clear hk'
      go_enter Try.func100, Try.ntmps100
      go_wp2_with fail
      go_ret
      exact ⟨ret_b HV.out.symm, by (repeat (first | with_reducible assumption | with_reducible exact Below.refl _ _ | with_reducible refine Below.drew ?_ | with_reducible refine belowDrewN ?_ _ | ((with_reducible refine Below.setCell ?_ ?_ _); rotate_left; focus (first | omega | (simp; done) | (simp; omega))) | ((with_reducible refine Below.alloc ?_ ?_ _); rotate_left; focus (first | omega | (simp; done) | (simp; omega)))))⟩
  · have h1 : (k == 1) = false := by simp [hk]
    have hv : ((k == 1) && ((k' == 1) && sameIdB s s' x x')) = false := by rw [h1]; rfl
    have HV := Lib.hid hv; clear hv; have HK := Lib.hid hk; clear hk
    go_enter Try.func100, Try.ntmps100
    go_wp2_with fail
    go_ret
    exact ⟨ret_b HV.out.symm, by (repeat (first | with_reducible assumption | with_reducible exact Below.refl _ _ | with_reducible refine Below.drew ?_ | with_reducible refine belowDrewN ?_ _ | ((with_reducible refine Below.setCell ?_ ?_ _); rotate_left; focus (first | omega | (simp; done) | (simp; omega))) | ((with_reducible refine Below.alloc ?_ ?_ _); rotate_left; focus (first | omega | (simp; done) | (simp; omega)))))⟩
noncomputable def samIdB (k n : Int) (s : ByteArray) (x : List Int) (ds : List Syn) (k' n' : Int) (s' : ByteArray) (x' : List Int) (ds' : List Syn) : Bool := isIdB k n s x ds && (isIdB k' n' s' x' ds' && sameIdB s s' x x')
theorem isIdB_k {k n : Int} {s : ByteArray} {x : List Int} {ds : List Syn} (h : isIdB k n s x ds = true) : (k == 1) = true := by unfold isIdB at h; exact (Bool.and_eq_true_iff.1 h).1
end Go.Proofs.Ytghbnehocggnnaa

/-
  The identifiers of a piece of syntax, in plain terms. No condition.
-/
set_option linter.unusedVariables false
set_option linter.unusedSimpArgs false
namespace Go.Proofs.Ytghbnehocggnnaa
open Go.RowKit

/-- an identifier with this text and these scopes is in the list -/
def HasId (acc : List Syn) (s : ByteArray) (x : List Int) : Prop := ∃ y ∈ acc, y.s = s ∧ y.x = x
open Classical in
noncomputable def hasIdB (acc : List Syn) (s : ByteArray) (x : List Int) : Bool := decide (HasId acc s x)
theorem hasIdB_iff (acc : List Syn) (s : ByteArray) (x : List Int) : hasIdB acc s x = true ↔ HasId acc s x := by simp [hasIdB]
theorem hasIdB_not (acc : List Syn) (s : ByteArray) (x : List Int) : hasIdB acc s x = false ↔ ¬ HasId acc s x := by simp [hasIdB]
theorem noId_nil (s : ByteArray) (x : List Int) : ¬ HasId [] s x := by rintro ⟨y, hy, _⟩; cases hy
theorem noId_step {acc : List Syn} {j : Nat} {d : Syn} {s : ByteArray} {x : List Int} (h : ¬ HasId (acc.take j) s x) (hd : acc[j]? = some d) (hn : ¬ (d.s = s ∧ d.x = x)) : ¬ HasId (acc.take (j + 1)) s x := by
  rintro ⟨y, hy, h1⟩
  rw [take_snoc hd, List.mem_append] at hy
  rcases hy with hy | hy
  · exact h ⟨y, hy, h1⟩
  · simp at hy; subst hy; exact hn h1
open Classical in
/-- the identifiers so far, and this one if it is one and new -/
noncomputable def addI (k n : Int) (s : ByteArray) (x : List Int) (ds : List Syn) (acc : List Syn) : List Syn := if k = 1 ∧ ¬ HasId acc s x then acc ++ [.mk k n s x ds] else acc
mutual
noncomputable def idD : Syn → List Syn → List Syn
  | .mk k n s x ds, acc => idL ds (addI k n s x ds acc)
noncomputable def idL : List Syn → List Syn → List Syn
  | [], acc => acc
  | d :: r, acc => idL r (idD d acc)
end
theorem idL_append : ∀ (ds es acc : List Syn), idL (ds ++ es) acc = idL es (idL ds acc)
  | [], es, acc => by simp [idL]
  | d :: r, es, acc => by simp only [List.cons_append, idL]; rw [idL_append r es]
theorem idL_take {ds : List Syn} {j : Nat} {d : Syn} (h : ds[j]? = some d) (acc : List Syn) : idL (ds.take (j + 1)) acc = idD d (idL (ds.take j) acc) := by
  rw [take_snoc h, idL_append]; simp [idL]
theorem addI_yes {acc : List Syn} {s : ByteArray} {x : List Int} (h : ¬ HasId acc s x) (n : Int) (ds : List Syn) : addI 1 n s x ds acc = acc ++ [.mk 1 n s x ds] := by simp [addI, h]
theorem addI_has {acc : List Syn} {s : ByteArray} {x : List Int} (h : HasId acc s x) (k n : Int) (ds : List Syn) : addI k n s x ds acc = acc := by simp [addI, h]
theorem addI_other {k : Int} (h : ¬ k = 1) (n : Int) (s : ByteArray) (x : List Int) (ds acc : List Syn) : addI k n s x ds acc = acc := by simp [addI, h]
theorem addI_length (k n : Int) (s : ByteArray) (x : List Int) (ds acc : List Syn) : (addI k n s x ds acc).length ≤ acc.length + 1 := by
  unfold addI; split <;> simp
end Go.Proofs.Ytghbnehocggnnaa

/-
  The identifiers of a piece of syntax: how many, of which kind, how great. No condition.
-/
set_option linter.unusedVariables false
set_option linter.unusedSimpArgs false
namespace Go.Proofs.Ytghbnehocggnnaa
open Go.RowKit

theorem idD_mk (k n : Int) (s : ByteArray) (x : List Int) (ds acc : List Syn) : idD (.mk k n s x ds) acc = idL ds (addI k n s x ds acc) := by rw [idD]
theorem idL_nil (acc : List Syn) : idL [] acc = acc := by rw [idL]
theorem idL_ind {P : List Syn → List Syn → List Syn → Prop} (h0 : ∀ acc, P [] acc acc) (hs : ∀ (ds : List Syn) (k n : Int) (s : ByteArray) (x : List Int) (es acc cur out : List Syn), P ds acc cur → P es (addI k n s x es cur) out → P (ds ++ [.mk k n s x es]) acc out) : ∀ ds acc, P ds acc (idL ds acc) := by
  refine Syn.inductL fun ds ih => ?_
  intro acc
  have key : ∀ j, j ≤ ds.length → P (ds.take j) acc (idL (ds.take j) acc) := by
    intro j
    induction j with
    | zero => intro _; simpa [idL_nil] using h0 acc
    | succ j ihj =>
      intro hj
      have hd : ds[j]? = some ds[j] := List.getElem?_eq_getElem (by omega)
      have h1 := ihj (by omega)
      rw [idL_take hd, take_snoc hd]
      cases hx : ds[j] with
      | mk k1 n1 s1 x1 ds1 =>
        have h3 := ih k1 n1 s1 x1 ds1 (by rw [← hx]; exact List.getElem_mem _) (addI k1 n1 s1 x1 ds1 (idL (ds.take j) acc))
        rw [idD_mk]
        exact hs _ _ _ _ _ _ _ _ _ h1 h3
  have := key ds.length (Nat.le_refl _)
  rwa [List.take_length] at this
theorem countL_snoc (ds : List Syn) (d : Syn) : Syn.countL (ds ++ [d]) = Syn.countL ds + d.count := by
  induction ds with
  | nil => simp [Syn.countL]
  | cons e r ih => simp only [List.cons_append, Syn.countL, ih]; omega
theorem idL_length (ds acc : List Syn) : (idL ds acc).length ≤ acc.length + Syn.countL ds := by
  refine idL_ind (P := fun ds acc out => out.length ≤ acc.length + Syn.countL ds) (fun acc => by simp [Syn.countL]) (fun ds k n s x es acc cur out h1 h2 => ?_) ds acc
  have h4 := addI_length k n s x es cur
  rw [countL_snoc]; simp only [Syn.count]; omega
theorem addI_one {k n : Int} {s : ByteArray} {x : List Int} {ds acc : List Syn} (h : ∀ y ∈ acc, y.k = 1) : ∀ y ∈ addI k n s x ds acc, y.k = 1 := by
  unfold addI; split
  · rename_i hk
    intro y hy
    rcases List.mem_append.1 hy with hy | hy
    · exact h y hy
    · simp at hy; subst hy; exact hk.1
  · exact h
theorem idL_one {ds acc : List Syn} (h : ∀ y ∈ acc, y.k = 1) : ∀ y ∈ idL ds acc, y.k = 1 :=
  idL_ind (P := fun ds acc out => (∀ y ∈ acc, y.k = 1) → ∀ y ∈ out, y.k = 1) (fun acc h => h) (fun ds k n s x es acc cur out h1 h2 h => h2 (addI_one (h1 h))) ds acc h
theorem sym_items {n : Int} {s : ByteArray} {x : List Int} {ds : List Syn} (h : (Syn.mk 1 n s x ds).ok) : ds = [] := by
  have h1 := (Syn.ok_mk.1 h).1
  rw [nodeB, if_neg (by decide), if_pos rfl] at h1
  simp only [Bool.and_eq_true, decide_eq_true_eq] at h1
  have h2 := h1.2.2
  exact List.length_eq_zero_iff.1 (by omega)
theorem addI_places {k n : Int} {s : ByteArray} {x : List Int} {ds acc : List Syn} (h : (Syn.mk k n s x ds).ok) : Syn.placesL (addI k n s x ds acc) ≤ Syn.placesL acc + (3 + x.length) := by
  unfold addI; split
  · rename_i hk
    obtain ⟨rfl, _⟩ := hk
    have := sym_items h
    subst this
    rw [Syn.placesL_append]; simp [Syn.placesL, Syn.places]
  · omega
theorem idL_places {ds acc : List Syn} (h : ∀ d ∈ ds, d.ok) : Syn.placesL (idL ds acc) ≤ Syn.placesL acc + Syn.placesL ds := by
  refine idL_ind (P := fun ds acc out => (∀ d ∈ ds, d.ok) → Syn.placesL out ≤ Syn.placesL acc + Syn.placesL ds) (fun acc _ => by simp [Syn.placesL]) (fun ds k n s x es acc cur out h1 h2 h => ?_) ds acc h
  have hok := h (.mk k n s x es) (by simp)
  have h3 := h1 fun d hd => h d (by simp [hd])
  have h4 := h2 (Syn.ok_mk.1 hok).2.2
  have h5 := addI_places (acc := cur) hok
  rw [Syn.placesL_append]; simp only [Syn.placesL, Syn.places]; omega
noncomputable def idsOf (k n : Int) (s : ByteArray) (x : List Int) (ds : List Syn) : List Syn := if isSynB k n s x ds = true then idL ds (addI k n s x ds []) else []
theorem isSynB_ok' {k n : Int} {s : ByteArray} {x : List Int} {ds : List Syn} (h : isSynB k n s x ds = true) : (Syn.mk k n s x ds).ok := by classical (have h2 : IsSynP k n s x ds := by unfold isSynB at h; simpa using h); exact h2.2.2
theorem idsOf_places (k n : Int) (s : ByteArray) (x : List Int) (ds : List Syn) : Syn.placesL (idsOf k n s x ds) ≤ 3 + x.length + Syn.placesL ds := by
  unfold idsOf; split
  · rename_i hv
    have hok := isSynB_ok' hv
    have h1 := idL_places (acc := addI k n s x ds []) (Syn.ok_mk.1 hok).2.2
    have h2 := addI_places (acc := []) hok
    simp only [Syn.placesL] at h2
    omega
  · simp [Syn.placesL]
end Go.Proofs.Ytghbnehocggnnaa

/-
  Walks: IsSubset. No condition.
-/
set_option linter.unusedVariables false
set_option linter.unusedSimpArgs false
set_option maxRecDepth 100000
namespace Go.Proofs.Ytghbnehocggnnaa
open Go.RowKit

def subB (l r : List Int) : Bool := decide (∀ x ∈ l, x ∈ r)
theorem subB_iff (l r : List Int) : subB l r = true ↔ ∀ x ∈ l, x ∈ r := by simp [subB]
theorem subB_not {l r : List Int} {k : Nat} {x : Int} (hx : l[k]? = some x) (h : hasB r x = false) : subB l r = false := by
  rw [Bool.eq_false_iff]; intro hs
  exact (hasB_not r x).1 h ((subB_iff l r).1 hs x (List.mem_of_getElem? hx))
theorem sub_step {l r : List Int} {k : Nat} {x : Int} (h : ∀ y ∈ l.take k, y ∈ r) (hx : l[k]? = some x) (hr : hasB r x = true) : ∀ y ∈ l.take (k + 1), y ∈ r := by
  rw [take_snoc hx]
  intro y hy
  rcases List.mem_append.1 hy with hy | hy
  · exact h y hy
  · simp at hy; subst hy; exact (hasB_iff r y).1 hr

theorem iSubset_loop (a : Option Addr) (cap : Nat) (l : List Int) (a' : Option Addr) (cap' : Nat) (r : List Int) (w : World) (h : (M.sl a cap 1 3 (intM l)).In w) (h' : (M.sl a' cap' 1 3 (intM r)).In w) :
    Calls Try.prog 73 #[.slice a l.length cap, .slice a' r.length cap'] w (Ret (.bool (subB l r)) w) := by
  have hl := Ints.len h
  have hl' := Ints.len h'
  have H := Lib.hid h; clear h; have H' := Lib.hid h'; clear h'
  go_enter Try.func73, Try.ntmps73
  go_wp2_with fail
  go_loopw [9] (fun i wr => ∃ k : Nat, k ≤ l.length ∧ i = .int .i64 k ∧ (∀ y ∈ l.take k, y ∈ r) ∧ Below w.heap.size w wr ∧ w.heap.size ≤ wr.heap.size) (fun i _ => l.length - (intOf i).toNat)
  case atStart => exact ⟨0, Nat.zero_le _, rfl, by simp, Below.refl _ _, Nat.le_refl _⟩
  case round =>
    obtain ⟨k, hk, rfl, hpre, hb, hsz⟩ := hrel
    by_cases hlt : k < l.length
    · obtain ⟨b, off, x, rfl, hx, hc⟩ := Ints.elem (H.out.below hb) k hlt
      cases hr : hasB r x with
      | true =>
        have hpre2 := sub_step hpre hx hr
        have HPRE := Lib.hid hpre; clear hpre; have HX := Lib.hid hx; clear hx; have HPRE2 := Lib.hid hpre2; clear hpre2
        go_wp2_with fail
        refine (iHasScope_calls a' cap' r x _ (H'.out.below (by (repeat (first | with_reducible assumption | with_reducible exact Below.refl _ _ | with_reducible refine Below.drew ?_ | with_reducible refine belowDrewN ?_ _ | ((with_reducible refine Below.setCell ?_ ?_ _); rotate_left; focus (first | omega | (simp; done) | (simp; omega))) | ((with_reducible refine Below.alloc ?_ ?_ _); rotate_left; focus (first | omega | (simp; done) | (simp; omega))) | ((with_reducible refine Below.trans ?_ (Below.mono hb ?_)); rotate_left; focus (first | omega | (simp; done) | (simp; omega)))))))).mono ?_
        rintro e w1 ⟨rfl, rfl⟩
        go_wp2_with fail
        go_roundw
        case rel => exact ⟨k + 1, by omega, by go_num, HPRE2.out, hb, hsz⟩
        case measure => simp [intOf]; omega
      | false =>
        have hn := subB_not hx hr
        have HPRE := Lib.hid hpre; clear hpre; have HX := Lib.hid hx; clear hx
        go_wp2_with fail
        refine (iHasScope_calls a' cap' r x _ (H'.out.below (by (repeat (first | with_reducible assumption | with_reducible exact Below.refl _ _ | with_reducible refine Below.drew ?_ | with_reducible refine belowDrewN ?_ _ | ((with_reducible refine Below.setCell ?_ ?_ _); rotate_left; focus (first | omega | (simp; done) | (simp; omega))) | ((with_reducible refine Below.alloc ?_ ?_ _); rotate_left; focus (first | omega | (simp; done) | (simp; omega))) | ((with_reducible refine Below.trans ?_ (Below.mono hb ?_)); rotate_left; focus (first | omega | (simp; done) | (simp; omega)))))))).mono ?_
        rintro e w1 ⟨rfl, rfl⟩
        go_wp2_with fail
        go_ret
        exact ⟨ret_b hn.symm, by (repeat (first | with_reducible assumption | with_reducible exact Below.refl _ _ | with_reducible refine Below.drew ?_ | with_reducible refine belowDrewN ?_ _ | ((with_reducible refine Below.setCell ?_ ?_ _); rotate_left; focus (first | omega | (simp; done) | (simp; omega))) | ((with_reducible refine Below.alloc ?_ ?_ _); rotate_left; focus (first | omega | (simp; done) | (simp; omega))) | ((with_reducible refine Below.trans ?_ (Below.mono hb ?_)); rotate_left; focus (first | omega | (simp; done) | (simp; omega)))))⟩
    · have hk2 : k = l.length := by omega
      subst hk2
      have hs : subB l r = true := (subB_iff l r).2 (by rwa [List.take_length] at hpre)
      have HPRE := Lib.hid hpre; clear hpre
      go_wp2_with fail
      go_ret
      exact ⟨ret_b hs.symm, by (repeat (first | with_reducible assumption | with_reducible exact Below.refl _ _ | with_reducible refine Below.drew ?_ | with_reducible refine belowDrewN ?_ _ | ((with_reducible refine Below.setCell ?_ ?_ _); rotate_left; focus (first | omega | (simp; done) | (simp; omega))) | ((with_reducible refine Below.alloc ?_ ?_ _); rotate_left; focus (first | omega | (simp; done) | (simp; omega))) | ((with_reducible refine Below.trans ?_ (Below.mono hb ?_)); rotate_left; focus (first | omega | (simp; done) | (simp; omega)))))⟩

theorem iIsSubset_calls (a : Option Addr) (cap : Nat) (l : List Int) (a' : Option Addr) (cap' : Nat) (r : List Int) (w : World) (h : (M.sl a cap 1 3 (intM l)).In w) (h' : (M.sl a' cap' 1 3 (intM r)).In w) :
    Calls Try.prog 35 #[.slice a l.length cap, .slice a' r.length cap'] w (Ret (.bool (ssB l && ssB r && subB l r)) w) := by
  have H := Lib.hid h; clear h; have H' := Lib.hid h'; clear h'
  go_enter Try.func35, Try.ntmps35
  go_wp2_with fail
  refine (iIsScopeSet_calls a cap l _ H.out).mono ?_
  rintro e w1 ⟨rfl, hb1⟩
  obtain ⟨hc1, hf1⟩ := bcell hb1; have hz1 := hb1.size; (try simp only [World.size_alloc, World.size_setCell, World.size_drew, sizeDrewN] at hz1 hc1 hf1)
  cases hs : ssB l with
  | false =>
    go_wp2_with fail
    go_ret
    exact ⟨ret_b (by simp [hs]), by (repeat (first | with_reducible assumption | with_reducible exact Below.refl _ _ | with_reducible refine Below.drew ?_ | with_reducible refine belowDrewN ?_ _ | ((with_reducible refine Below.setCell ?_ ?_ _); rotate_left; focus (first | omega | (simp; done) | (simp; omega))) | ((with_reducible refine Below.alloc ?_ ?_ _); rotate_left; focus (first | omega | (simp; done) | (simp; omega))) | ((with_reducible refine Below.trans ?_ (Below.mono hb1 ?_)); rotate_left; focus (first | omega | (simp; done) | (simp; omega)))))⟩
  | true =>
    go_wp2_with fail
    refine (iIsScopeSet_calls a' cap' r _ (H'.out.below (by (repeat (first | with_reducible assumption | with_reducible exact Below.refl _ _ | with_reducible refine Below.drew ?_ | with_reducible refine belowDrewN ?_ _ | ((with_reducible refine Below.setCell ?_ ?_ _); rotate_left; focus (first | omega | (simp; done) | (simp; omega))) | ((with_reducible refine Below.alloc ?_ ?_ _); rotate_left; focus (first | omega | (simp; done) | (simp; omega))) | ((with_reducible refine Below.trans ?_ (Below.mono hb1 ?_)); rotate_left; focus (first | omega | (simp; done) | (simp; omega)))))))).mono ?_
    rintro e w2 ⟨rfl, hb2⟩
    obtain ⟨hc2, hf2⟩ := bcell hb2; have hz2 := hb2.size; (try simp only [World.size_alloc, World.size_setCell, World.size_drew, sizeDrewN] at hz2 hc2 hf2)
    cases hs' : ssB r with
    | false =>
      go_wp2_with fail
      go_ret
      exact ⟨ret_b (by simp [hs, hs']), by (repeat (first | with_reducible assumption | with_reducible exact Below.refl _ _ | with_reducible refine Below.drew ?_ | with_reducible refine belowDrewN ?_ _ | ((with_reducible refine Below.setCell ?_ ?_ _); rotate_left; focus (first | omega | (simp; done) | (simp; omega))) | ((with_reducible refine Below.alloc ?_ ?_ _); rotate_left; focus (first | omega | (simp; done) | (simp; omega))) | ((with_reducible refine Below.trans ?_ (Below.mono hb1 ?_)); rotate_left; focus (first | omega | (simp; done) | (simp; omega))) | ((with_reducible refine Below.trans ?_ (Below.mono hb2 ?_)); rotate_left; focus (first | omega | (simp; done) | (simp; omega)))))⟩
    | true =>
      go_wp2_with fail
      refine (iSubset_loop a cap l a' cap' r _ (H.out.below (by (repeat (first | with_reducible assumption | with_reducible exact Below.refl _ _ | with_reducible refine Below.drew ?_ | with_reducible refine belowDrewN ?_ _ | ((with_reducible refine Below.setCell ?_ ?_ _); rotate_left; focus (first | omega | (simp; done) | (simp; omega))) | ((with_reducible refine Below.alloc ?_ ?_ _); rotate_left; focus (first | omega | (simp; done) | (simp; omega))) | ((with_reducible refine Below.trans ?_ (Below.mono hb1 ?_)); rotate_left; focus (first | omega | (simp; done) | (simp; omega))) | ((with_reducible refine Below.trans ?_ (Below.mono hb2 ?_)); rotate_left; focus (first | omega | (simp; done) | (simp; omega))))))) (H'.out.below (by (repeat (first | with_reducible assumption | with_reducible exact Below.refl _ _ | with_reducible refine Below.drew ?_ | with_reducible refine belowDrewN ?_ _ | ((with_reducible refine Below.setCell ?_ ?_ _); rotate_left; focus (first | omega | (simp; done) | (simp; omega))) | ((with_reducible refine Below.alloc ?_ ?_ _); rotate_left; focus (first | omega | (simp; done) | (simp; omega))) | ((with_reducible refine Below.trans ?_ (Below.mono hb1 ?_)); rotate_left; focus (first | omega | (simp; done) | (simp; omega))) | ((with_reducible refine Below.trans ?_ (Below.mono hb2 ?_)); rotate_left; focus (first | omega | (simp; done) | (simp; omega)))))))).mono ?_
      rintro e w3 ⟨rfl, hb3⟩
      obtain ⟨hc3, hf3⟩ := bcell hb3; have hz3 := hb3.size; (try simp only [World.size_alloc, World.size_setCell, World.size_drew, sizeDrewN] at hz3 hc3 hf3)
      go_wp2_with fail
      go_ret
      exact ⟨ret_b (by simp [hs, hs']), by (repeat (first | with_reducible assumption | with_reducible exact Below.refl _ _ | with_reducible refine Below.drew ?_ | with_reducible refine belowDrewN ?_ _ | ((with_reducible refine Below.setCell ?_ ?_ _); rotate_left; focus (first | omega | (simp; done) | (simp; omega))) | ((with_reducible refine Below.alloc ?_ ?_ _); rotate_left; focus (first | omega | (simp; done) | (simp; omega))) | ((with_reducible refine Below.trans ?_ (Below.mono hb1 ?_)); rotate_left; focus (first | omega | (simp; done) | (simp; omega))) | ((with_reducible refine Below.trans ?_ (Below.mono hb2 ?_)); rotate_left; focus (first | omega | (simp; done) | (simp; omega))) | ((with_reducible refine Below.trans ?_ (Below.mono hb3 ?_)); rotate_left; focus (first | omega | (simp; done) | (simp; omega)))))⟩
end Go.Proofs.Ytghbnehocggnnaa

/-
  Plain law: a scope put into a set of scopes, and taken out. No condition.
-/
set_option linter.unusedVariables false
set_option linter.unusedSimpArgs false
namespace Go.Proofs.Ytghbnehocggnnaa

def PutInv (n : Int) (p : List Int) (st : List Int × Bool) : Prop :=
  st.1.Pairwise (· < ·) ∧ (st.2 = false → st.1 = p ∧ ∀ x ∈ p, x < n) ∧ (st.2 = true → (∀ z, z ∈ st.1 ↔ z ∈ p ∨ z = n) ∧ ∃ y ∈ p, n ≤ y)
theorem PutInv.step {n x : Int} {p : List Int} {st : List Int × Bool} (h : PutInv n p st) (hx : ∀ y ∈ p, y < x) : PutInv n (p ++ [x]) (putStep n st x) := by
  obtain ⟨o, d⟩ := st
  obtain ⟨h1, h2, h3⟩ := h
  simp only at h1 h2 h3
  cases d with
  | false =>
    obtain ⟨rfl, hlt⟩ := h2 rfl
    by_cases hn : n ≤ x
    · by_cases hn2 : n < x
      · have he : putStep n (o, false) x = (o ++ [n] ++ [x], true) := by simp [putStep, hn, hn2]
        rw [he]
        refine ⟨?_, fun h => by simp at h, fun _ => ⟨fun z => ?_, x, by simp, hn⟩⟩
        · simp only [List.pairwise_append, List.pairwise_singleton, List.mem_append, List.mem_singleton]
          refine ⟨⟨h1, trivial, fun a ha b hb => by subst hb; exact hlt a ha⟩, trivial, fun a ha b hb => by
            subst hb
            rcases ha with ha | ha
            · exact hx a ha
            · subst ha; exact hn2⟩
        · simp [List.mem_append]; grind
      · have he : putStep n (o, false) x = (o ++ [x], true) := by simp [putStep, hn, hn2]
        have hxn : x = n := by omega
        rw [he]
        refine ⟨?_, fun h => by simp at h, fun _ => ⟨fun z => ?_, x, by simp, hn⟩⟩
        · simp only [List.pairwise_append, List.pairwise_singleton, List.mem_singleton]
          exact ⟨h1, trivial, fun a ha b hb => by subst hb; exact hx a ha⟩
        · subst hxn; simp [List.mem_append]
    · have he : putStep n (o, false) x = (o ++ [x], false) := by simp [putStep, hn]
      rw [he]
      refine ⟨?_, fun _ => ⟨rfl, fun y hy => ?_⟩, fun h => by simp at h⟩
      · simp only [List.pairwise_append, List.pairwise_singleton, List.mem_singleton]
        exact ⟨h1, trivial, fun a ha b hb => by subst hb; exact hx a ha⟩
      · rcases List.mem_append.1 hy with hy | hy
        · exact hlt y hy
        · simp at hy; subst hy; omega
  | true =>
    obtain ⟨hm, y, hy, hny⟩ := h3 rfl
    have he : putStep n (o, true) x = (o ++ [x], true) := by simp [putStep]
    rw [he]
    refine ⟨?_, fun h => by simp at h, fun _ => ⟨fun z => ?_, y, by simp [hy], hny⟩⟩
    · simp only [List.pairwise_append, List.pairwise_singleton, List.mem_singleton]
      refine ⟨h1, trivial, fun a ha b hb => ?_⟩
      subst hb
      rcases (hm a).1 ha with h | h
      · exact hx a h
      · have := hx y hy; omega
    · simp only [List.mem_append, List.mem_singleton, hm]; grind
theorem putInv (n : Int) {l : List Int} (hl : l.Pairwise (· < ·)) : ∀ k, k ≤ l.length → PutInv n (l.take k) (putSt n (l.take k))
  | 0, _ => ⟨by simp [putSt], fun _ => ⟨by simp [putSt], by simp⟩, fun h => by simp [putSt] at h⟩
  | k + 1, hk => by
    have hx : l[k]? = some l[k] := List.getElem?_eq_getElem (by omega)
    rw [putSt_succ hx, take_snoc hx]
    refine (putInv n hl k (by omega)).step fun y hy => ?_
    obtain ⟨i, hi, rfl⟩ := List.mem_iff_getElem.1 hy
    have hik : i < k := by simp at hi; omega
    rw [List.getElem_take]
    exact List.pairwise_iff_getElem.1 hl i k (by omega) (by omega) hik
theorem put_spec (n : Int) {l : List Int} (hl : l.Pairwise (· < ·)) : (put n l).Pairwise (· < ·) ∧ ∀ z, z ∈ put n l ↔ z ∈ l ∨ z = n := by
  have h := putInv n hl l.length (Nat.le_refl _)
  rw [List.take_length] at h
  obtain ⟨h1, h2, h3⟩ := h
  unfold put
  cases hd : (putSt n l).2 with
  | true => exact ⟨by simpa using h1, by simpa using (h3 hd).1⟩
  | false =>
    obtain ⟨e, hlt⟩ := h2 hd
    rw [e] at h1 ⊢
    refine ⟨?_, fun z => by simp⟩
    simp only [Bool.false_eq_true, if_false, List.pairwise_append, List.pairwise_singleton, List.mem_singleton]
    exact ⟨h1, trivial, fun a ha b hb => by subst hb; exact hlt a ha⟩
theorem kind_range {n : Int} (h : ¬ kindS n = 0) : 1 ≤ n ∧ n ≤ 99999 := Classical.not_not.1 fun hn => h ((kindS_zero n).2 hn)
theorem put_asc {n : Int} {l : List Int} (hl : Asc l) (hn : ¬ kindS n = 0) : Asc (put n l) := by
  obtain ⟨h1, h2⟩ := put_spec n hl.2
  refine ⟨fun x hx => ?_, h1⟩
  rcases (h2 x).1 hx with h | h
  · exact hl.1 x h
  · subst h; exact kind_range hn
theorem dropN_mem {n : Int} {l : List Int} {z : Int} : z ∈ dropN n l ↔ z ∈ l ∧ ¬ z = n := by simp [dropN]
theorem dropN_asc {n : Int} {l : List Int} (hl : Asc l) : Asc (dropN n l) := ⟨fun x hx => hl.1 x (dropN_mem.1 hx).1, List.Pairwise.sublist (List.filter_sublist ..) hl.2⟩
theorem dropN_length_mem : ∀ {l : List Int} {n : Int}, l.Pairwise (· < ·) → n ∈ l → l.length = (dropN n l).length + 1
  | [], n, _, h => by cases h
  | x :: r, n, hp, h => by
    rw [List.pairwise_cons] at hp
    by_cases hx : x = n
    · subst hx
      have : dropN x (x :: r) = r := by
        unfold dropN
        rw [List.filter_cons_of_neg (by simp)]
        exact List.filter_eq_self.2 fun y hy => by have := hp.1 y hy; simp; omega
      rw [this, List.length_cons]
    · have hm : n ∈ r := by rcases List.mem_cons.1 h with h | h; exact absurd h.symm hx; exact h
      have : dropN n (x :: r) = x :: dropN n r := by unfold dropN; rw [List.filter_cons_of_pos (by simp [hx])]
      rw [this, List.length_cons, List.length_cons, dropN_length_mem hp.2 hm]
end Go.Proofs.Ytghbnehocggnnaa

/-
  Plain law: scopes added, flipped, struck; the datum of a piece of syntax and the syntax of a datum. No condition.
-/
set_option linter.unusedVariables false
set_option linter.unusedSimpArgs false
set_option maxRecDepth 100000
namespace Go.Proofs.Ytghbnehocggnnaa
open Go.RowKit

theorem asc_ext : ∀ {a b : List Int}, a.Pairwise (· < ·) → b.Pairwise (· < ·) → (∀ z, z ∈ a ↔ z ∈ b) → a = b
  | [], [], _, _, _ => rfl
  | [], y :: t, _, _, h => absurd ((h y).2 (List.mem_cons_self ..)) (by simp)
  | x :: r, [], _, _, h => absurd ((h x).1 (List.mem_cons_self ..)) (by simp)
  | x :: r, y :: t, ha, hb, h => by
    rw [List.pairwise_cons] at ha hb
    have hxy : x = y := by
      have h1 := (h x).1 (List.mem_cons_self ..)
      have h2 := (h y).2 (List.mem_cons_self ..)
      rcases List.mem_cons.1 h1 with h1 | h1
      · exact h1
      rcases List.mem_cons.1 h2 with h2 | h2
      · exact h2.symm
      have := hb.1 x h1
      have := ha.1 y h2
      omega
    subst hxy
    rw [asc_ext ha.2 hb.2 fun z => ?_]
    constructor
    · intro hz
      rcases List.mem_cons.1 ((h z).1 (List.mem_cons_of_mem _ hz)) with h1 | h1
      · subst h1; have := ha.1 z hz; omega
      · exact h1
    · intro hz
      rcases List.mem_cons.1 ((h z).2 (List.mem_cons_of_mem _ hz)) with h1 | h1
      · subst h1; have := hb.1 z hz; omega
      · exact h1
theorem put_put {m : Int} {x : List Int} (hx : ssB x = true) : put m (put m x) = put m x := by
  have h := (ssB_iff x).1 hx
  obtain ⟨h1, h2⟩ := put_spec m h.2
  obtain ⟨h3, h4⟩ := put_spec m h1
  refine asc_ext h3 h1 fun z => ?_
  rw [h4, h2]
  grind
theorem flip_flip {m : Int} {x : List Int} (hm : ¬ kindS m = 0) (hx : ssB x = true) : flipSo m (flipSo m x) = x := by
  have h := (ssB_iff x).1 hx
  have e1 : flipSo m x = flipL x m := by unfold flipSo flipS; rw [if_pos ⟨hx, hm⟩]
  rw [e1]
  cases hb : hasB x m with
  | true =>
    have e2 : flipL x m = dropN m x := by unfold flipL; rw [if_pos hb]
    rw [e2]
    have hd := dropN_asc (n := m) h
    have hnb : hasB (dropN m x) m = false := (hasB_not _ _).2 fun hc => (dropN_mem.1 hc).2 rfl
    have e3 : flipSo m (dropN m x) = put m (dropN m x) := by
      unfold flipSo flipS; rw [if_pos ⟨(ssB_iff _).2 hd, hm⟩]; unfold flipL; rw [if_neg (by rw [hnb]; decide)]
    rw [e3]
    obtain ⟨h1, h2⟩ := put_spec m hd.2
    refine asc_ext h1 h.2 fun z => ?_
    rw [h2, dropN_mem]
    have := (hasB_iff x m).1 hb
    grind
  | false =>
    have e2 : flipL x m = put m x := by unfold flipL; rw [if_neg (by rw [hb]; decide)]
    rw [e2]
    have hd := put_asc (n := m) h hm
    obtain ⟨h1, h2⟩ := put_spec m h.2
    have hnb : hasB (put m x) m = true := (hasB_iff _ _).2 ((h2 m).2 (.inr rfl))
    have e3 : flipSo m (put m x) = dropN m (put m x) := by
      unfold flipSo flipS; rw [if_pos ⟨(ssB_iff _).2 hd, hm⟩]; unfold flipL; rw [if_pos hnb]
    rw [e3]
    refine asc_ext (dropN_asc hd).2 h.2 fun z => ?_
    rw [dropN_mem, h2]
    have := (hasB_not x m).1 hb
    grind
theorem put_ss {m : Int} {x : List Int} (hm : ¬ kindS m = 0) (hx : ssB x = true) : ssB (put m x) = true := (ssB_iff _).2 (put_asc ((ssB_iff x).1 hx) hm)
theorem flip_ss {m : Int} {x : List Int} (hm : ¬ kindS m = 0) (hx : ssB x = true) : ssB (flipSo m x) = true := by
  have h := (ssB_iff x).1 hx
  unfold flipSo flipS
  rw [if_pos ⟨hx, hm⟩]
  unfold flipL
  split
  · exact (ssB_iff _).2 (dropN_asc h)
  · exact (ssB_iff _).2 (put_asc h hm)
theorem woUse_ss {x : List Int} (hx : ssB x = true) : ssB (woUse x) = true := by
  have h := (ssB_iff x).1 hx
  unfold woUse
  rw [if_pos hx]
  exact (ssB_iff _).2 ⟨fun z hz => h.1 z (List.mem_filter.1 hz).1, List.Pairwise.sublist (List.filter_sublist ..) h.2⟩
theorem mapSynL_comp (F G : List Int → List Int) (ds : List Syn) : mapSynL G (mapSynL F ds) = mapSynL (fun x => G (F x)) ds := by
  refine Syn.inductL (P := fun ds => mapSynL G (mapSynL F ds) = mapSynL (fun x => G (F x)) ds) (fun ds ih => ?_) ds
  induction ds with
  | nil => rfl
  | cons d r ihr =>
    obtain ⟨k, n, s, x, es⟩ := d
    have h1 := ih k n s x es (List.mem_cons_self ..)
    have h2 := ihr fun k n s x es hm => ih k n s x es (List.mem_cons_of_mem _ hm)
    have h3 : mapX G k (mapX F k x) = mapX (fun x => G (F x)) k x := by unfold mapX; split <;> rfl
    simp only [mapSynL, mapSyn, h1, h2, h3]
theorem mapSynL_len (F : List Int → List Int) : ∀ ds : List Syn, (mapSynL F ds).length = ds.length
  | [] => rfl
  | d :: r => by simp only [mapSynL, List.length_cons, mapSynL_len F r]
theorem mapSynL_shape (F : List Int → List Int) (ds : List Syn) : Syn.countL (mapSynL F ds) = Syn.countL ds ∧ Syn.depthL (mapSynL F ds) = Syn.depthL ds ∧ datOfL (mapSynL F ds) = datOfL ds := by
  refine Syn.inductL (P := fun ds => Syn.countL (mapSynL F ds) = Syn.countL ds ∧ Syn.depthL (mapSynL F ds) = Syn.depthL ds ∧ datOfL (mapSynL F ds) = datOfL ds) (fun ds ih => ?_) ds
  induction ds with
  | nil => exact ⟨rfl, rfl, rfl⟩
  | cons d r ihr =>
    obtain ⟨k, n, s, x, es⟩ := d
    obtain ⟨h1, h2, h3⟩ := ih k n s x es (List.mem_cons_self ..)
    obtain ⟨g1, g2, g3⟩ := ihr fun k n s x es hm => ih k n s x es (List.mem_cons_of_mem _ hm)
    simp only [mapSynL, mapSyn, Syn.countL, Syn.count, Syn.depthL, Syn.depth, datOfL, datOf, h1, h2, h3, g1, g2, g3, and_self]
theorem map_scB {F : List Int → List Int} (hF : ∀ x, ssB x = true → ssB (F x) = true) {k : Int} {x : List Int} (h : scB k x = true) : scB k (mapX F k x) = true := by
  by_cases hk : k = 1
  · subst hk
    rw [mapX_one]
    simp only [scB, Bool.and_eq_true, Bool.or_eq_true, decide_eq_true_eq] at h ⊢
    exact ⟨hF x h.1, .inr trivial⟩
  · rw [mapX_other hk]; exact h
theorem map_okL {F : List Int → List Int} (hF : ∀ x, ssB x = true → ssB (F x) = true) (ds : List Syn) (h : Syn.okL ds) : Syn.okL (mapSynL F ds) := by
  revert h
  refine Syn.inductL (P := fun ds => Syn.okL ds → Syn.okL (mapSynL F ds)) (fun ds ih => ?_) ds
  induction ds with
  | nil => intro _; trivial
  | cons d r ihr =>
    obtain ⟨k, n, s, x, es⟩ := d
    rintro ⟨⟨h1, h2, h3⟩, h4⟩
    refine ⟨⟨by rw [mapSynL_len]; exact h1, map_scB hF h2, ih k n s x es (List.mem_cons_self ..) h3⟩, ihr (fun k n s x es hm => ih k n s x es (List.mem_cons_of_mem _ hm)) h4⟩
theorem map_isSyn {F : List Int → List Int} (hF : ∀ x, ssB x = true → ssB (F x) = true) {k n : Int} {s : ByteArray} {x : List Int} {ds : List Syn} (h : isSynB k n s x ds = true) : isSynB k n s (mapX F k x) (mapSynL F ds) = true := by
  obtain ⟨h1, h2, h3, h4, h5⟩ := isSynB_iff.1 h
  obtain ⟨g1, g2, _⟩ := mapSynL_shape F ds
  exact isSynB_yes ⟨by rw [g1]; exact h1, by rw [g2]; exact h2, by rw [mapSynL_len]; exact h3, map_scB hF h4, map_okL hF ds h5⟩
/-- mapped if b says so: as right as before -/
theorem mapG_isSyn {F : List Int → List Int} {b : Bool} {k n : Int} {s : ByteArray} {x : List Int} {ds : List Syn} (hb : b = true → isSynB k n s x ds = true ∧ ∀ x, ssB x = true → ssB (F x) = true) :
    isSynB k n s (mapGx b F k x) (mapGd b F ds) = isSynB k n s x ds := by
  cases b with
  | false => rw [mapGx_no, mapGd_no]
  | true =>
    obtain ⟨h1, h2⟩ := hb rfl
    rw [mapGx_yes, mapGd_yes, h1, map_isSyn h2 h1]
theorem mapG_dat (F : List Int → List Int) {b : Bool} {k n : Int} {s : ByteArray} {x : List Int} {ds : List Syn} (hb : b = true → isSynB k n s x ds = true ∧ ∀ x, ssB x = true → ssB (F x) = true) :
    datG k n s (mapGx b F k x) (mapGd b F ds) = datG k n s x ds := by
  unfold datG
  rw [mapG_isSyn hb]
  have : datOfL (mapGd b F ds) = datOfL ds := by
    cases b with
    | false => rw [mapGd_no]
    | true => rw [mapGd_yes, (mapSynL_shape F ds).2.2]
  rw [this]
theorem mapG_count (F : List Int → List Int) (b : Bool) (ds : List Syn) : Syn.countL (mapGd b F ds) = Syn.countL ds := by
  cases b with
  | false => rw [mapGd_no]
  | true => rw [mapGd_yes, (mapSynL_shape F ds).1]
/-- mapped twice -/
theorem mapG_twice {F G H : List Int → List Int} (hFG : ∀ x, ssB x = true → G (F x) = H x) {b : Bool} {k n : Int} {s : ByteArray} {x : List Int} {ds : List Syn} (hb : b = true → isSynB k n s x ds = true) :
    mapGx b G k (mapGx b F k x) = mapGx b H k x ∧ mapGd b G (mapGd b F ds) = mapGd b H ds := by
  cases b with
  | false => exact ⟨rfl, rfl⟩
  | true =>
    obtain ⟨_, _, _, h4, h5⟩ := isSynB_iff.1 (hb rfl)
    simp only [mapGx_yes, mapGd_yes]
    refine ⟨?_, by rw [mapSynL_comp]; exact mapSynL_ok hFG ds h5⟩
    unfold mapX
    split
    · simp only [scB, Bool.and_eq_true] at h4; exact hFG x h4.1
    · rfl
theorem mapG_id (b : Bool) (k : Int) (x : List Int) (ds : List Syn) : mapGx b id k x = x ∧ mapGd b id ds = ds := by
  cases b with
  | false => exact ⟨rfl, rfl⟩
  | true => exact ⟨mapX_id k x, mapSynL_id ds⟩
noncomputable def scOk (k n : Int) (s : ByteArray) (x : List Int) (ds : List Syn) (m : Int) : Bool := isSynB k n s x ds && !(kindS m == 0)
theorem scOk_iff {k n : Int} {s : ByteArray} {x : List Int} {ds : List Syn} {m : Int} : scOk k n s x ds m = true ↔ isSynB k n s x ds = true ∧ ¬ kindS m = 0 := by simp [scOk]
theorem scOk_put {k n : Int} {s : ByteArray} {x : List Int} {ds : List Syn} {m : Int} : scOk k n s x ds m = true → isSynB k n s x ds = true ∧ ∀ x, ssB x = true → ssB (put m x) = true := fun h => ⟨(scOk_iff.1 h).1, fun _ hx => put_ss (scOk_iff.1 h).2 hx⟩
theorem scOk_flip {k n : Int} {s : ByteArray} {x : List Int} {ds : List Syn} {m : Int} : scOk k n s x ds m = true → isSynB k n s x ds = true ∧ ∀ x, ssB x = true → ssB (flipSo m x) = true := fun h => ⟨(scOk_iff.1 h).1, fun _ hx => flip_ss (scOk_iff.1 h).2 hx⟩
/-- a scope added twice -/
theorem add_twice (k n : Int) (s : ByteArray) (x : List Int) (ds : List Syn) (m : Int) :
    let b := scOk k n s x ds m
    scOk k n s (mapGx b (put m) k x) (mapGd b (put m) ds) m = b ∧ mapGx b (put m) k (mapGx b (put m) k x) = mapGx b (put m) k x ∧ mapGd b (put m) (mapGd b (put m) ds) = mapGd b (put m) ds := by
  intro b
  have h1 := mapG_isSyn (F := put m) (b := b) (k := k) (n := n) (s := s) (x := x) (ds := ds) scOk_put
  obtain ⟨h2, h3⟩ := mapG_twice (F := put m) (G := put m) (H := put m) (b := b) (k := k) (n := n) (s := s) (x := x) (ds := ds) (fun x hx => put_put hx) (fun h => (scOk_put h).1)
  exact ⟨by unfold scOk; rw [h1]; rfl, h2, h3⟩
/-- a scope flipped twice -/
theorem flip_twice (k n : Int) (s : ByteArray) (x : List Int) (ds : List Syn) (m : Int) :
    let b := scOk k n s x ds m
    scOk k n s (mapGx b (flipSo m) k x) (mapGd b (flipSo m) ds) m = b ∧ mapGx b (flipSo m) k (mapGx b (flipSo m) k x) = x ∧ mapGd b (flipSo m) (mapGd b (flipSo m) ds) = ds := by
  intro b
  have h1 := mapG_isSyn (F := flipSo m) (b := b) (k := k) (n := n) (s := s) (x := x) (ds := ds) scOk_flip
  refine ⟨by unfold scOk; rw [h1]; rfl, ?_⟩
  cases hb : b with
  | false => exact ⟨rfl, rfl⟩
  | true =>
    have hm := (scOk_iff.1 hb).2
    obtain ⟨h2, h3⟩ := mapG_twice (F := flipSo m) (G := flipSo m) (H := id) (b := true) (k := k) (n := n) (s := s) (x := x) (ds := ds) (fun x hx => flip_flip hm hx) (fun _ => (scOk_iff.1 hb).1)
    obtain ⟨h4, h5⟩ := mapG_id true k x ds
    exact ⟨h2.trans h4, h3.trans h5⟩
mutual
def NoU : Syn → Prop
  | .mk k n s x ds => (k = 1 → ∀ z ∈ x, ¬ kindS z = 3) ∧ NoUL ds
def NoUL : List Syn → Prop
  | [] => True
  | d :: r => NoU d ∧ NoUL r
end
theorem addI_noU {k n : Int} {s : ByteArray} {x : List Int} {ds acc : List Syn} (h : k = 1 → ∀ z ∈ x, ¬ kindS z = 3) (ha : ∀ d ∈ acc, ∀ z ∈ d.x, ¬ kindS z = 3) : ∀ d ∈ addI k n s x ds acc, ∀ z ∈ d.x, ¬ kindS z = 3 := by
  unfold addI
  split
  · rename_i hk
    intro d hd
    rcases List.mem_append.1 hd with h1 | h1
    · exact ha d h1
    · simp only [List.mem_singleton] at h1; subst h1; exact h hk.1
  · exact ha
theorem idL_noU (ds : List Syn) : NoUL ds → ∀ acc : List Syn, (∀ d ∈ acc, ∀ z ∈ d.x, ¬ kindS z = 3) → ∀ d ∈ idL ds acc, ∀ z ∈ d.x, ¬ kindS z = 3 := by
  refine Syn.inductL (P := fun ds => NoUL ds → ∀ acc : List Syn, (∀ d ∈ acc, ∀ z ∈ d.x, ¬ kindS z = 3) → ∀ d ∈ idL ds acc, ∀ z ∈ d.x, ¬ kindS z = 3) (fun ds ih => ?_) ds
  induction ds with
  | nil => intro _ acc ha; simpa [idL] using ha
  | cons d r ihr =>
    obtain ⟨k, n, s, x, es⟩ := d
    rintro ⟨⟨h1, h2⟩, h3⟩ acc ha
    have g1 := ih k n s x es (List.mem_cons_self ..) h2 _ (addI_noU (n := n) (s := s) (ds := es) h1 ha)
    have g2 := ihr (fun k n s x es hm => ih k n s x es (List.mem_cons_of_mem _ hm)) h3 _ g1
    simpa only [idL, idD] using g2
theorem woUse_noU {x : List Int} (hx : ssB x = true) : ∀ z ∈ woUse x, ¬ kindS z = 3 := by
  unfold woUse
  rw [if_pos hx]
  intro z hz
  have := (List.mem_filter.1 hz).2
  simpa using this
theorem map_noUL (ds : List Syn) (h : Syn.okL ds) : NoUL (mapSynL woUse ds) := by
  revert h
  refine Syn.inductL (P := fun ds => Syn.okL ds → NoUL (mapSynL woUse ds)) (fun ds ih => ?_) ds
  induction ds with
  | nil => intro _; trivial
  | cons d r ihr =>
    obtain ⟨k, n, s, x, es⟩ := d
    rintro ⟨h1, h4⟩
    refine ⟨⟨fun hk => ?_, ih k n s x es (List.mem_cons_self ..) h1.2.2⟩, ihr (fun k n s x es hm => ih k n s x es (List.mem_cons_of_mem _ hm)) h4⟩
    subst hk
    rw [mapX_one]
    exact woUse_noU (Syn.ok_set h1)
/-- identifiers without uses -/
theorem ids_noUse (k n : Int) (s : ByteArray) (x : List Int) (ds : List Syn) :
    ∀ d ∈ idsOf k n s (mapGx (isSynB k n s x ds) woUse k x) (mapGd (isSynB k n s x ds) woUse ds), ∀ z ∈ d.x, ¬ kindS z = 3 := by
  have h1 := mapG_isSyn (F := woUse) (b := isSynB k n s x ds) (k := k) (n := n) (s := s) (x := x) (ds := ds) (fun h => ⟨h, fun _ hx => woUse_ss hx⟩)
  unfold idsOf
  rw [h1]
  cases hb : isSynB k n s x ds with
  | false => intro d hd; simp at hd
  | true =>
    obtain ⟨_, _, h3, h4, h5⟩ := isSynB_iff.1 hb
    rw [if_pos rfl, mapGx_yes, mapGd_yes]
    refine idL_noU _ (map_noUL ds h5) _ (addI_noU (fun hk => ?_) (fun d hd => by cases hd))
    subst hk
    rw [mapX_one]
    simp only [scB, Bool.and_eq_true] at h4
    exact woUse_noU h4.1
theorem strip_isSyn (k n : Int) (s : ByteArray) (x : List Int) (ds : List Syn) : isSynB k n s (mapGx (isSynB k n s x ds) woUse k x) (mapGd (isSynB k n s x ds) woUse ds) = isSynB k n s x ds :=
  mapG_isSyn (fun h => ⟨h, fun _ hx => woUse_ss hx⟩)
/-- the syntax of a datum is right, and its datum is the datum -/
theorem synOfL_dat (ds : List Dat) : datOfL (synOfL ds) = ds ∧ Syn.countL (synOfL ds) = Dat.countL ds ∧ Syn.depthL (synOfL ds) = Dat.depthL ds ∧ (synOfL ds).length = ds.length ∧ ((Dat.okL ds) → Syn.okL (synOfL ds)) := by
  refine Dat.inductL (P := fun ds => datOfL (synOfL ds) = ds ∧ Syn.countL (synOfL ds) = Dat.countL ds ∧ Syn.depthL (synOfL ds) = Dat.depthL ds ∧ (synOfL ds).length = ds.length ∧ ((Dat.okL ds) → Syn.okL (synOfL ds))) (fun ds ih => ?_) ds
  induction ds with
  | nil => exact ⟨rfl, rfl, rfl, rfl, fun _ => trivial⟩
  | cons d r ihr =>
    obtain ⟨k, n, s, es⟩ := d
    obtain ⟨h1, h2, h3, h4, h5⟩ := ih k n s es (List.mem_cons_self ..)
    obtain ⟨g1, g2, g3, g4, g5⟩ := ihr fun k n s es hm => ih k n s es (List.mem_cons_of_mem _ hm)
    refine ⟨by simp only [synOfL, synOf, datOfL, datOf, h1, g1], by simp only [synOfL, synOf, Syn.countL, Syn.count, Dat.countL, Dat.count, h2, g2], by simp only [synOfL, synOf, Syn.depthL, Syn.depth, Dat.depthL, Dat.depth, h3, g3], by simp only [synOfL, List.length_cons, g4], ?_⟩
    rintro ⟨⟨o1, o2⟩, o3⟩
    simp only [synOfL, synOf]
    exact ⟨⟨by rw [h4]; exact o1, by simp [scB, ssB, Asc], h5 o2⟩, g5 o3⟩
theorem synG_dat {k n : Int} {s : ByteArray} {ds : List Dat} (h : isDatB k n s ds = true) : isSynB k n s [] (synOfL ds) = true ∧ datG k n s [] (synOfL ds) = .mk k n s ds := by
  have hp : IsDatP k n s ds := by simpa [isDatB] using h
  obtain ⟨h1, h2, h3⟩ := hp
  obtain ⟨g1, g2, g3, g4, g5⟩ := synOfL_dat ds
  have hv : isSynB k n s [] (synOfL ds) = true := isSynB_yes ⟨by rw [g2]; omega, by rw [g3]; omega, by rw [g4]; exact h3.1, by simp [scB, ssB, Asc], g5 h3.2⟩
  exact ⟨hv, by rw [datG_yes hv, g1]⟩
end Go.Proofs.Ytghbnehocggnnaa

/-
  Walks: numbers drawn. No condition.
-/
set_option linter.unusedVariables false
set_option linter.unusedSimpArgs false
set_option maxRecDepth 100000
namespace Go.Proofs.Ytghbnehocggnnaa
open Go.RowKit

theorem l01Below_calls (n : Int) (pb : Nat) (a : Option Addr) (cap : Nat) (l : List Int) (w : World) (hc : Cur pb a cap l w) (h1 : 1 ≤ n) (h9 : n ≤ 9223372036854775807) :
    Calls Try.prog 53 #[.pointer (some ⟨pb, 0, none⟩), .int .i64 n] w (Drawn 0 (n - 1) pb a cap l w) := by
  have hne : ¬ n = 0 := by omega
  by_cases h256 : n ≤ 256
  · go_enter Try.func53, Try.ntmps53
    go_wp2_with fail
    refine (l01Byte_calls pb a cap l _ hc).mono ?_
    rintro e w1 ⟨x, rfl, hx0, hx1, hc1, ho1⟩
    have hm1 := Int.tmod_nonneg n hx0
    have hm2 := Int.tmod_lt_of_pos x (show 0 < n by omega)
    have HC1 := Lib.hid hc1; clear hc1; have HO1 := Lib.hid ho1; clear ho1
    go_wp2_with fail
    go_ret
    exact ⟨_, rfl, by first | exact hm1 | (rw [← Int.tmod_eq_emod_of_nonneg hx0]; exact hm1), by first | (have := hm2; omega) | (rw [← Int.tmod_eq_emod_of_nonneg hx0]; omega), HC1.out, HO1.out⟩
  · go_enter Try.func53, Try.ntmps53
    go_wp2_with fail
    refine (l01Byte_calls pb a cap l _ hc).mono ?_
    rintro e w1 ⟨x, rfl, hx0, hx1, hc1, ho1⟩
    have HO1 := Lib.hid ho1; clear ho1
    go_wp2_with fail
    refine (l01Byte_calls pb a cap l _ hc1).mono ?_
    rintro e w2 ⟨y, rfl, hy0, hy1, hc2, ho2⟩
    have HO2 := Lib.hid ho2; clear ho2; have HC1 := Lib.hid hc1; clear hc1
    go_wp2_with fail
    refine (l01Byte_calls pb a cap l _ hc2).mono ?_
    rintro e w3 ⟨z, rfl, hz0, hz1, hc3, ho3⟩
    have HO3 := Lib.hid ho3; clear ho3; have HC2 := Lib.hid hc2; clear hc2
    go_wp2_with fail
    refine (l01Byte_calls pb a cap l _ hc3).mono ?_
    rintro e w4 ⟨v, rfl, hv0, hv1, hc4, ho4⟩
    have hs0 : 0 ≤ x * 16777216 + y * 65536 + z * 256 + v := by omega
    have hm1 := Int.tmod_nonneg n hs0
    have hm2 := Int.tmod_lt_of_pos (x * 16777216 + y * 65536 + z * 256 + v) (show 0 < n by omega)
    have HO4 := Lib.hid ho4; clear ho4; have HC3 := Lib.hid hc3; clear hc3; have HC4 := Lib.hid hc4; clear hc4
    go_wp2_with fail
    go_ret
    exact ⟨_, rfl, by first | exact hm1 | (rw [← Int.tmod_eq_emod_of_nonneg hs0]; exact hm1), by first | (have := hm2; omega) | (rw [← Int.tmod_eq_emod_of_nonneg hs0]; omega), HC4.out, ((HO1.out.trans HO2.out).trans HO3.out).trans HO4.out⟩
def DrawnB (pb : Nat) (a : Option Addr) (cap : Nat) (l : List Int) (w : World) (e : Ending) (w' : World) : Prop :=
  ∃ b : Bool, e = .returned (.bool b) ∧ Cur pb a cap l w' ∧ OnlyIn pb (pb + 1) w w'
theorem l01Once_calls (n : Int) (pb : Nat) (a : Option Addr) (cap : Nat) (l : List Int) (w : World) (hc : Cur pb a cap l w) (h1 : 1 ≤ n) (h9 : n ≤ 9223372036854775807) :
    Calls Try.prog 87 #[.pointer (some ⟨pb, 0, none⟩), .int .i64 n] w (DrawnB pb a cap l w) := by
  have HC := Lib.hid hc; clear hc
  go_enter Try.func87, Try.ntmps87
  go_wp2_with fail
  refine (l01Below_calls n pb a cap l _ HC.out h1 h9).mono ?_
  rintro e w1 ⟨x, rfl, hx0, hx1, hc1, ho1⟩
  have HC1 := Lib.hid hc1; clear hc1; have HO1 := Lib.hid ho1; clear ho1
  go_wp2_with fail
  go_ret
  exact ⟨_, rfl, HC1.out, HO1.out⟩
theorem Ints.onlyIn {lo hi : Nat} {w w' : World} {a : Option Addr} {cap : Nat} {e : TypeId} {l : List Int} (h : (M.sl a cap 1 e (intM l)).In w) (k : OnlyIn lo hi w w') (hl : ∀ b ∈ addrBlocks a, b < lo ∨ hi ≤ b) : (M.sl a cap 1 e (intM l)).In w' := by
  obtain ⟨⟨hh, hu⟩, hx⟩ := h
  refine ⟨⟨⟨hh.len, hh.pos, hh.le, hh.max, hh.nil, fun ad had j u hj => ?_⟩, hu⟩, M.InL_of fun x hx => by simp [intM] at hx; obtain ⟨n, _, rfl⟩ := hx; trivial⟩
  have hc := hh.cell ad had j u hj
  have hb : (ad.add j).block = ad.block := by unfold Addr.add; split <;> rfl
  refine (World.cell?_of_block (k.block _ (World.block_lt_of_cell? w _ hc) ?_)).trans hc
  rw [hb]
  exact hl _ (by rw [had]; simp [addrBlocks])
/-- one of a list's numbers -/
def DrawnI (L : List Int) (pb : Nat) (a : Option Addr) (cap : Nat) (l : List Int) (w : World) (e : Ending) (w' : World) : Prop :=
  ∃ x : Int, e = .returned (.int .i64 x) ∧ x ∈ L ∧ Cur pb a cap l w' ∧ OnlyIn pb (pb + 1) w w'
theorem l01Int_calls (la : Option Addr) (lc : Nat) (L : List Int) (pb : Nat) (a : Option Addr) (cap : Nat) (l : List Int) (w : World) (hL : 0 < L.length) (hin : (M.sl la lc 1 3 (intM L)).In w) (hla : ∀ b ∈ addrBlocks la, b < pb ∨ pb + 1 ≤ b) (hc : Cur pb a cap l w) :
    Calls Try.prog 102 #[.pointer (some ⟨pb, 0, none⟩), .slice la L.length lc] w (DrawnI L pb a cap l w) := by
  have hl := Ints.len hin
  have HC := Lib.hid hc; clear hc; have HIN := Lib.hid hin; clear hin
  go_enter Try.func102, Try.ntmps102
  go_wp2_with fail
  refine (l01Below_calls L.length pb a cap l _ HC.out (by omega) (by omega)).mono ?_
  rintro e w1 ⟨x, rfl, hx0, hx1, hc1, ho1⟩
  obtain ⟨k, rfl⟩ := Int.eq_ofNat_of_zero_le hx0
  have hin1 := Ints.onlyIn HIN.out ho1 hla
  obtain ⟨b, off, z, rfl, hz, hcz⟩ := Ints.elem hin1 k (by omega)
  have hkl : k < L.length := by omega
  have hzm := List.mem_of_getElem? hz
  have HC1 := Lib.hid hc1; clear hc1; have HO1 := Lib.hid ho1; clear ho1; have HIN1 := Lib.hid hin1; clear hin1; have HZ := Lib.hid hz; clear hz; have HZM := Lib.hid hzm; clear hzm; have HLA := Lib.hid hla; clear hla
  go_wp2_with fail
  go_ret
  exact ⟨_, rfl, HZM.out, HC1.out, HO1.out⟩
end Go.Proofs.Ytghbnehocggnnaa

/-
  Walks: the cursor made; sets of scopes drawn. No condition.
-/
set_option linter.unusedVariables false
set_option linter.unusedSimpArgs false
set_option maxRecDepth 100000
namespace Go.Proofs.Ytghbnehocggnnaa
open Go.RowKit

def RetCur (a : Option Addr) (cap : Nat) (l : List Int) (w : World) (e : Ending) (w' : World) : Prop :=
  ∃ pb, e = .returned (.pointer (some ⟨pb, 0, none⟩)) ∧ w.heap.size ≤ pb ∧ Cur pb a cap l w' ∧ Below w.heap.size w w'
theorem l01New_calls (a : Option Addr) (cap : Nat) (l : List Int) (w : World) (hin : (M.sl a cap 1 5 (u8M l)).In w) (hu : ∀ z ∈ l, 0 ≤ z ∧ z ≤ 255) (hlen : l.length ≤ 1048576) :
    Calls Try.prog 47 #[.slice a l.length cap] w (RetCur a cap l w) := by
  have hl := U8s.len hin
  have HIN := Lib.hid hin; clear hin; have HU := Lib.hid hu; clear hu
  go_enter Try.func47, Try.ntmps47
  go_wp2_with fail
  go_loop [3, 4] (fun t i => ∃ (k : Nat) (h : Int), k ≤ l.length ∧ i = .int .i64 k ∧ t = .int .i64 h ∧ 0 ≤ h ∧ h ≤ 1073741823) (fun _ i => l.length - (intOf i).toNat)
  case atStart => exact ⟨0, 3220 + l.length, Nat.zero_le _, rfl, rfl, by omega, by omega⟩
  case round =>
    obtain ⟨k, h, hk, rfl, rfl, h0, h1⟩ := hrel
    by_cases hlt : k < l.length
    · by_cases h4 : (k : Int) < 4000
      · obtain ⟨b, off, z, rfl, hz, hc⟩ := U8s.elem HIN.out k hlt
        have hzr := HU.out z (List.mem_of_getElem? hz)
        have hzw : wrap64 z = z := by unfold wrap64; omega
        have HZ := Lib.hid hz; clear hz
        go_wp2_with fail
        go_round
        case rel => exact ⟨k + 1, _, by omega, by go_num, rfl, (and30 _).1, (and30 _).2⟩
        case measure => simp [intOf]; omega
      · have hlt' : (k : Int) < (l.length : Int) := by omega
        go_wp2_with fail
        go_ret
        refine ⟨w.heap.size, rfl, Nat.le_refl _, ⟨0, h, ?_, ?_, ?_, ?_, ?_, Nat.zero_le _, HIN.out.below (by (repeat (first | with_reducible assumption | with_reducible exact Below.refl _ _ | with_reducible refine Below.drew ?_ | with_reducible refine belowDrewN ?_ _ | ((with_reducible refine Below.setCell ?_ ?_ _); rotate_left; focus (first | omega | (simp; done) | (simp; omega))) | ((with_reducible refine Below.alloc ?_ ?_ _); rotate_left; focus (first | omega | (simp; done) | (simp; omega)))))), ?_, HU.out⟩, by (repeat (first | with_reducible assumption | with_reducible exact Below.refl _ _ | with_reducible refine Below.drew ?_ | with_reducible refine belowDrewN ?_ _ | ((with_reducible refine Below.setCell ?_ ?_ _); rotate_left; focus (first | omega | (simp; done) | (simp; omega))) | ((with_reducible refine Below.alloc ?_ ?_ _); rotate_left; focus (first | omega | (simp; done) | (simp; omega)))))⟩
        · simp [go_sem]
        · simp [go_sem]
        · simp [go_sem]
        · simp [go_sem]
        · simp [go_sem]
        · intro hpos b hb
          obtain ⟨b', off', z, rfl, _, hc⟩ := U8s.elem HIN.out 0 hpos
          simp [addrBlocks] at hb
          subst hb
          exact World.block_lt_of_cell? w _ hc
    · have hlt' : ¬ (k : Int) < (l.length : Int) := by omega
      go_wp2_with fail
      go_ret
      refine ⟨w.heap.size, rfl, Nat.le_refl _, ⟨0, h, ?_, ?_, ?_, ?_, ?_, Nat.zero_le _, HIN.out.below (by (repeat (first | with_reducible assumption | with_reducible exact Below.refl _ _ | with_reducible refine Below.drew ?_ | with_reducible refine belowDrewN ?_ _ | ((with_reducible refine Below.setCell ?_ ?_ _); rotate_left; focus (first | omega | (simp; done) | (simp; omega))) | ((with_reducible refine Below.alloc ?_ ?_ _); rotate_left; focus (first | omega | (simp; done) | (simp; omega)))))), ?_, HU.out⟩, by (repeat (first | with_reducible assumption | with_reducible exact Below.refl _ _ | with_reducible refine Below.drew ?_ | with_reducible refine belowDrewN ?_ _ | ((with_reducible refine Below.setCell ?_ ?_ _); rotate_left; focus (first | omega | (simp; done) | (simp; omega))) | ((with_reducible refine Below.alloc ?_ ?_ _); rotate_left; focus (first | omega | (simp; done) | (simp; omega)))))⟩
      · simp [go_sem]
      · simp [go_sem]
      · simp [go_sem]
      · simp [go_sem]
      · simp [go_sem]
      · intro hpos b hb
        obtain ⟨b', off', z, rfl, _, hc⟩ := U8s.elem HIN.out 0 hpos
        simp [addrBlocks] at hb
        subst hb
        exact World.block_lt_of_cell? w _ hc
theorem putSt_mem (n : Int) : ∀ (l : List Int) (st : List Int × Bool), ∀ z ∈ (l.foldl (putStep n) st).1, z = n ∨ z ∈ l ∨ z ∈ st.1
  | [], st => fun z hz => .inr (.inr hz)
  | y :: r, st => fun z hz => by
    rcases putSt_mem n r (putStep n st y) z hz with h | h | h
    · exact .inl h
    · exact .inr (.inl (List.mem_cons_of_mem _ h))
    · unfold putStep at h
      split at h
      · simp only [List.mem_append, List.mem_singleton] at h
        rcases h with h | h
        · split at h
          · rcases List.mem_append.1 h with h | h
            · exact .inr (.inr h)
            · simp at h; exact .inl h
          · exact .inr (.inr h)
        · subst h; exact .inr (.inl (List.mem_cons_self ..))
      · rcases List.mem_append.1 h with h | h
        · exact .inr (.inr h)
        · simp at h; subst h; exact .inr (.inl (List.mem_cons_self ..))
theorem put_mem {n : Int} {l : List Int} {z : Int} (h : z ∈ put n l) : z = n ∨ z ∈ l := by
  unfold put at h
  split at h
  · rcases putSt_mem n l ([], false) z h with h | h | h
    · exact .inl h
    · exact .inr h
    · cases h
  · rcases List.mem_append.1 h with h | h
    · rcases putSt_mem n l ([], false) z h with h | h | h
      · exact .inl h
      · exact .inr h
      · cases h
    · simp at h; exact .inl h
def Small (L : List Int) : Prop := ∀ z ∈ L, -1 ≤ z ∧ z ≤ 100000
theorem Small.nil : Small [] := fun z h => by cases h
theorem Small.put {L : List Int} (h : Small L) {x : Int} (h0 : 0 ≤ x) (h1 : x ≤ 8) : Small (put (1 + x) L) := fun z hz => by
  rcases put_mem hz with rfl | hz
  · omega
  · exact h z hz
/-- a list of numbers drawn -/
def RetSet (m : Nat) (pb : Nat) (a : Option Addr) (cap : Nat) (l : List Int) (w : World) (e : Ending) (w' : World) : Prop :=
  ∃ (L : List Int) (a' : Option Addr) (cap' : Nat), e = .returned (.slice a' L.length cap') ∧ L.length ≤ m ∧ Small L ∧ (M.sl a' cap' 1 3 (intM L)).Mine w' w.heap.size ∧ Cur pb a cap l w' ∧ OnlyIn pb (pb + 1) w w'
theorem l2Set_calls (pb : Nat) (a : Option Addr) (cap : Nat) (l : List Int) (w : World) (hc : Cur pb a cap l w) :
    Calls Try.prog 90 #[.pointer (some ⟨pb, 0, none⟩)] w (RetSet 7 pb a cap l w) := by
  have hpl := hc.lt
  have HC := Lib.hid hc; clear hc
  go_enter Try.func90, Try.ntmps90
  go_wp2_with fail
  refine (l01Below_calls 4 pb a cap l _ (HC.out.below (by (repeat (first | with_reducible assumption | with_reducible exact Below.refl _ _ | with_reducible refine Below.drew ?_ | with_reducible refine belowDrewN ?_ _ | ((with_reducible refine Below.setCell ?_ ?_ _); rotate_left; focus (first | omega | (simp; done) | (simp; omega))) | ((with_reducible refine Below.alloc ?_ ?_ _); rotate_left; focus (first | omega | (simp; done) | (simp; omega))))))) (by decide) (by decide)).mono ?_
  rintro e w1 ⟨x, rfl, hx0, hx1, hc1, ho1⟩
  obtain ⟨n0, rfl⟩ := Int.eq_ofNat_of_zero_le hx0
  have hz1 := ho1.size
  simp only [World.size_alloc] at hz1
  have hm1 : (M.sl (some ⟨w.heap.size, 0, none⟩) 0 1 3 (intM [])).Mine w1 w.heap.size := (Ints.lit w w.heap.size (Nat.le_refl _)).keep (fun b h1 h2 => ho1.block b h2 (.inr (by omega)))
  have hoo : OnlyIn pb (pb + 1) w w1 := ((OnlyIn.refl _ _ _).new _).trans ho1
  have hn3 : n0 ≤ 3 := by omega
  have hpw : (([] : List Int).length + 1) * 2 ^ n0 ≤ 8 := by
    have : n0 = 0 ∨ n0 = 1 ∨ n0 = 2 ∨ n0 = 3 := by omega
    rcases this with rfl | rfl | rfl | rfl <;> decide
  have HC1 := Lib.hid hc1; clear hc1; have HO1 := Lib.hid ho1; clear ho1; have HM1 := Lib.hid hm1; clear hm1; have HOO := Lib.hid hoo; clear hoo
  go_wp2_with fail
  go_loopw [3, 4] (fun t i wr => ∃ (L : List Int) (a' : Option Addr) (cap' n : Nat), t = .slice a' L.length cap' ∧ i = .int .i64 n ∧ n ≤ 3 ∧ (L.length + 1) * 2 ^ n ≤ 8 ∧ Small L ∧ (M.sl a' cap' 1 3 (intM L)).Mine wr w.heap.size ∧ Cur pb a cap l wr ∧ OnlyIn pb (pb + 1) w wr ∧ w.heap.size ≤ wr.heap.size) (fun _ i _ => (intOf i).toNat)
  case atStart => exact ⟨[], _, _, n0, rfl, rfl, hn3, hpw, Small.nil, HM1.out, HC1.out, HOO.out, by omega⟩
  case round =>
    obtain ⟨L, a', cap', n, rfl, rfl, hn, hLn, hLs, hm, hcr, hor, hsz⟩ := hrel
    have HLS := Lib.hid hLs; clear hLs
    cases n with
    | zero =>
      simp at hLn
      have HM := Lib.hid hm; clear hm; have HCR := Lib.hid hcr; clear hcr; have HOR := Lib.hid hor; clear hor
      go_wp2_with fail
      go_ret
      exact ⟨L, a', cap', rfl, hLn, HLS.out, HM.out, HCR.out, HOR.out⟩
    | succ n =>
      have hpos : 0 < ((n + 1 : Nat) : Int) := by omega
      have hL8 : L.length ≤ 8 := by
        have : 1 ≤ 2 ^ (n + 1) := Nat.one_le_two_pow
        have := Nat.le_mul_of_pos_right (L.length + 1) (show 0 < 2 ^ (n + 1) by omega)
        omega
      have hlen := Ints.len hm.in_
      have HM := Lib.hid hm; clear hm; have HCR := Lib.hid hcr; clear hcr; have HOR := Lib.hid hor; clear hor
      go_wp2_with fail
      refine (l01Below_calls 9 pb a cap l _ HCR.out (by decide) (by decide)).mono ?_
      rintro e w2 ⟨x, rfl, hx0, hx1, hc2, ho2⟩
      have hz2 := ho2.size
      have hm2 := HM.out.keep (fun b h1 h2 => ho2.block b h2 (.inr (by omega)))
      have HC2 := Lib.hid hc2; clear hc2; have HO2 := Lib.hid ho2; clear ho2; have HM2 := Lib.hid hm2; clear hm2
      go_wp2_with fail
      refine (sPut_calls a' cap' L (1 + x) _ HM2.out.in_ (by omega)).mono ?_
      rintro e w3 ⟨a3, cap3, rfl, hm3, hb3⟩
      have hz3 := hb3.size
      have hput := put_length (1 + x) L
      have hL3 : ((put (1 + x) L).length + 1) * 2 ^ n ≤ 8 := by
        refine Nat.le_trans (Nat.mul_le_mul_right _ (show (put (1 + x) L).length + 1 ≤ (L.length + 1) * 2 by omega)) ?_
        rw [Nat.mul_assoc, ← Nat.pow_succ']
        exact hLn
      have hm3' := hm3.mono (show w.heap.size ≤ w2.heap.size by omega)
      have hc3 := HC2.out.below hb3
      have ho3 := (HOR.out.trans HO2.out).trans (OnlyIn.of_below (lo := pb) (hi := pb + 1) hb3)
      have HM3 := Lib.hid hm3; clear hm3; have HM3' := Lib.hid hm3'; clear hm3'; have HC3 := Lib.hid hc3; clear hc3; have HO3 := Lib.hid ho3; clear ho3; have HB3 := Lib.hid hb3; clear hb3
      go_wp2_with fail
      go_roundw
      case rel => exact ⟨put (1 + x) L, a3, cap3, n, rfl, by go_num, by omega, hL3, HLS.out.put hx0 (by omega), HM3'.out, HC3.out, HO3.out, by omega⟩
      case measure => first | (simp [intOf]; done) | (simp [intOf]; omega)
theorem l2AnySet_calls (pb : Nat) (a : Option Addr) (cap : Nat) (l : List Int) (w : World) (hc : Cur pb a cap l w) :
    Calls Try.prog 94 #[.pointer (some ⟨pb, 0, none⟩)] w (RetSet 8 pb a cap l w) := by
  have hpl := hc.lt
  have HC := Lib.hid hc; clear hc
  go_enter Try.func94, Try.ntmps94
  go_wp2_with fail
  refine (l2Set_calls pb a cap l _ HC.out).mono ?_
  rintro e w1 ⟨L, a1, cap1, rfl, hL, hLs, hm1, hc1, ho1⟩
  have HLS := Lib.hid hLs; clear hLs
  have hz1 := ho1.size
  have hlen := Ints.len hm1.in_
  have HC1 := Lib.hid hc1; clear hc1; have HM1 := Lib.hid hm1; clear hm1
  go_wp2_with fail
  refine (l01Once_calls 6 pb a cap l _ HC1.out (by decide) (by decide)).mono ?_
  rintro e w2 ⟨bb, rfl, hc2, ho2⟩
  have hz2 := ho2.size
  have hm2 := HM1.out.keep (fun b h1 h2 => ho2.block b h2 (.inr (by omega)))
  have ho12 := ho1.trans ho2
  have HC2 := Lib.hid hc2; clear hc2; have HO2 := Lib.hid ho2; clear ho2; have HM2 := Lib.hid hm2; clear hm2; have HO12 := Lib.hid ho12; clear ho12; have HO1 := Lib.hid ho1; clear ho1
  cases bb with
  | false =>
    go_wp2_with fail
    go_ret
    exact ⟨L, a1, cap1, rfl, by omega, HLS.out, HM2.out, HC2.out, HO12.out⟩
  | true =>
    go_wp2_with fail
    refine (l01Int_calls (some ⟨w2.heap.size, 0, none⟩) 5 [0, 1, -1, 99999, 100000] pb a cap l _ (by decide) (M.Mine.new (xs := intM [0, 1, -1, 99999, 100000]) (lo := w2.heap.size) rfl (Nat.le_refl _) (by rw [intM_cells]; rfl) (by decide) (fun y hy => by obtain ⟨v, rfl, _⟩ := intM_one _ y hy; rfl) (by simp [intM_length, maxLen]) ⟨OwnL_iff.2 fun y hy => by obtain ⟨v, rfl, h⟩ := intM_one _ y hy; exact h, by rw [intM_blocks]; exact List.nodup_nil⟩).in_ (by simp [addrBlocks]; omega) (HC2.out.below (by (repeat (first | with_reducible assumption | with_reducible exact Below.refl _ _ | with_reducible refine Below.drew ?_ | with_reducible refine belowDrewN ?_ _ | ((with_reducible refine Below.setCell ?_ ?_ _); rotate_left; focus (first | omega | (simp; done) | (simp; omega))) | ((with_reducible refine Below.alloc ?_ ?_ _); rotate_left; focus (first | omega | (simp; done) | (simp; omega)))))))).mono ?_
    rintro e w3 ⟨x, rfl, hx, hc3, ho3⟩
    have hz3 := ho3.size
    simp only [World.size_alloc] at hz3
    have ho3' : OnlyIn pb (pb + 1) w2 w3 := ((OnlyIn.refl _ _ _).new _).trans ho3
    have hm3 := HM2.out.keep (w' := w3) (fun b h1 h2 => ho3'.block b h2 (.inr (by omega)))
    have ho13 := HO12.out.trans ho3'
    have HC3 := Lib.hid hc3; clear hc3; have HO3 := Lib.hid ho3; clear ho3; have HO3' := Lib.hid ho3'; clear ho3'; have HM3 := Lib.hid hm3; clear hm3; have HO13 := Lib.hid ho13; clear ho13; have HX := Lib.hid hx; clear hx
    go_wp2_with (at_builtin; refine wpInts_push (wr := w3) (w1 := w3) rfl _ _ 24 rfl 3 _ Try.underlying24 infoI rfl w.heap.size a1 cap1 L rfl HM3.out (by omega) (Below.refl _ _) x rfl (by omega) ?_)
    intro a4 cap4 w4 hm4 hb4 hz4
    have hc4 := HC3.out.belowB hb4 hpl
    have ho4 := HO13.out.thenBelow hb4
    have HM4 := Lib.hid hm4; clear hm4; have HC4 := Lib.hid hc4; clear hc4; have HO4 := Lib.hid ho4; clear ho4
    go_wp2_with fail
    go_ret
    exact ⟨L ++ [x], a4, cap4, by simp, by simp; omega, (fun z hz => by rcases List.mem_append.1 hz with hz | hz; exact HLS.out z hz; simp at hz; subst hz; have h := HX.out; simp at h; omega), HM4.out, HC4.out, HO4.out⟩
/-- a list of numbers and a number drawn -/
def RetSetN (w : World) (e : Ending) (w' : World) : Prop :=
  ∃ (L : List Int) (a' : Option Addr) (cap' : Nat) (n : Int), e = .returned (.tuple #[.slice a' L.length cap', .int .i64 n]) ∧ L.length ≤ 8 ∧ 0 ≤ n ∧ n ≤ 9 ∧ (M.sl a' cap' 1 3 (intM L)).Mine w' w.heap.size ∧ Below w.heap.size w w'
end Go.Proofs.Ytghbnehocggnnaa

/-
  An element of one's own row whose inner rows have been made anew; pieces of syntax with other sets of scopes. No condition.
-/
set_option linter.unusedVariables false
set_option linter.unusedSimpArgs false
set_option maxRecDepth 100000
namespace Go.Proofs.Ytghbnehocggnnaa
open Go.RowKit

theorem Only.thenN {bs cs : List Nat} {a b c : World} (h : Only bs a b) (k : Only cs b c) (hs : ∀ x ∈ cs, x ∈ bs ∨ a.heap.size ≤ x) : Only bs a c :=
  ⟨k.os.trans h.os, k.tape.trans h.tape, k.output.trans h.output, Nat.le_trans h.size k.size, fun i hi hn => (k.block i (Nat.lt_of_lt_of_le hi h.size) fun hc => by rcases hs i hc with h1 | h1; exact hn h1; omega).trans (h.block i hi hn)⟩
theorem Only.ofIn {lo hi : Nat} {bs : List Nat} {w w' : World} (h : OnlyIn lo hi w w') (hs : ∀ x, lo ≤ x → x < hi → x ∈ bs) : Only bs w w' :=
  ⟨h.os, h.tape, h.output, h.size, fun k hk hn => h.block k hk (by rcases Nat.lt_or_ge k lo with h1 | h1; exact .inl h1; rcases Nat.lt_or_ge k hi with h2 | h2; exact absurd (hs k h1 h2) hn; exact .inr h2)⟩
theorem M.Mine.keep2 {w w' : World} {lo : Nat} {m : M} (h : m.Mine w lo) (hw : ∀ b ∈ m.blocks, w'.heap[b]? = w.heap[b]?) : m.Mine w' lo := ⟨M.Own.frame m h.own hw, h.dup⟩
theorem setCells_Only (g : Nat) {bs : List Nat} (hg : g ∈ bs) {a : World} : ∀ (us : List Value) (w : World) (o : Nat), Only bs a w → Only bs a (setCells w g o us)
  | [], _, _, h => h
  | u :: us, w, o, h => setCells_Only g hg us _ _ (h.setCell (p := ⟨g, o, none⟩) hg u)
/-- Element k's inner rows are others now, its own cells are not. -/
theorem M.Mine.setSubN {w w' : World} {lo g cap sz : Nat} {e : TypeId} {xs : List M} (h : (M.sl (some ⟨g, 0, none⟩) cap sz e xs).Mine w lo) (k : Nat) (hk : k < xs.length) (m : M)
    (hmc : m.cells = (xs[k]).cells) (hm : m.Mine w' lo) (hmb : ∀ b ∈ m.blocks, b ∈ (xs[k]).blocks ∨ w.heap.size ≤ b) {bs : List Nat} (ho : Only bs w w') (hbs : ∀ b ∈ bs, b ∈ (xs[k]).blocks ∨ b < lo) :
    (M.sl (some ⟨g, 0, none⟩) cap sz e (xs.set k m)).Mine w' lo := by
  obtain ⟨g1, hg1, hgl, hgw⟩ := h.addr (by omega)
  simp only [Option.some.injEq, Addr.mk.injEq, and_true] at hg1
  subst hg1
  obtain ⟨⟨⟨hrow, hs, hu⟩, hx⟩, hd⟩ := h
  simp only [M.blocks] at hd
  rw [List.nodup_append] at hd
  obtain ⟨hd1, hd2, hd3⟩ := hd
  have hng : ∀ b ∈ M.blocksL xs, b ≠ g := fun b hb he => hd3 g (by simp [addrBlocks]) b hb he.symm
  have hmem : ∀ b ∈ (xs[k]).blocks, b ∈ M.blocksL xs := fun b hb => mem_blocksL.2 ⟨_, List.getElem_mem hk, hb⟩
  have hxlt := M.OwnL.lt xs hx
  have hd2' := hd2
  rw [blocksL_split xs k hk, List.nodup_append] at hd2'
  obtain ⟨hp1, hp2, hp3⟩ := hd2'
  rw [List.nodup_append] at hp2
  obtain ⟨hq1, hq2, hq3⟩ := hp2
  refine ⟨⟨⟨?_, hs, ?_⟩, ?_⟩, ?_⟩
  · rw [cellsL_set_same xs k m hk hmc, List.length_set]
    refine ownsRow_frame hrow fun b hb => ?_
    simp [addrBlocks] at hb
    subst hb
    refine ho.block _ hgw fun hb => ?_
    rcases hbs _ hb with h1 | h1
    · exact hng _ (hmem _ h1) rfl
    · omega
  · intro x hx2
    rcases List.mem_or_eq_of_mem_set hx2 with h1 | rfl
    · exact hu x h1
    · rw [hmc]; exact hu _ (List.getElem_mem hk)
  · rw [List.set_eq_take_append_cons_drop, if_pos hk]
    rw [M.OwnL_append]
    have hx' := hx
    rw [← List.take_append_drop k xs, List.drop_eq_getElem_cons hk, M.OwnL_append] at hx'
    obtain ⟨ha, _, hc⟩ := hx'
    refine ⟨M.OwnL.frame _ ha fun b hb => ?_, hm.own, M.OwnL.frame _ hc fun b hb => ?_⟩
    · have hl := hxlt b (by rw [blocksL_split xs k hk]; simp [hb])
      refine ho.block b hl.2 fun hn => ?_
      rcases hbs b hn with h1 | h1
      · exact hp3 b hb b (by simp [h1]) rfl
      · omega
    · have hl := hxlt b (by rw [blocksL_split xs k hk]; simp [hb])
      refine ho.block b hl.2 fun hn => ?_
      rcases hbs b hn with h1 | h1
      · exact hq3 b h1 b hb rfl
      · omega
  · simp only [M.blocks]
    rw [List.nodup_append]
    refine ⟨hd1, blocksL_nodup_set xs k m hd2 hm.dup fun b hb => ?_, fun b hb b' hb' he => ?_⟩
    · rcases hmb b hb with h1 | h1
      · exact .inl fun _ => h1
      · exact .inr fun h2 => by have := (hxlt b h2).2; omega
    · simp [addrBlocks] at hb
      subst hb
      obtain ⟨y, hy, hby⟩ := mem_blocksL.1 hb'
      rcases List.mem_or_eq_of_mem_set hy with h1 | rfl
      · exact hng b' (mem_blocksL.2 ⟨y, h1, hby⟩) he.symm
      · rcases hmb b' hby with h1 | h1
        · exact hng b' (hmem _ h1) he.symm
        · omega
def synM (e : TypeId) (k n : Int) (s : ByteArray) (xa : Option Addr) (xc : Nat) (x : List Int) (a : Option Addr) (cap : Nat) (ms : List M) : M := .ag [.c (.int .i64 k), .c (.int .i64 n), .c (.string s), .sl xa xc 1 3 (intM x), .sl a cap 5 e ms]
theorem synM_blocks (e : TypeId) (k n : Int) (s : ByteArray) (xa : Option Addr) (xc : Nat) (x : List Int) (a : Option Addr) (cap : Nat) (ms : List M) : (synM e k n s xa xc x a cap ms).blocks = addrBlocks xa ++ (M.sl a cap 5 e ms).blocks := by
  simp [synM, M.blocks, M.blocksL, intM_blocks]
theorem synM_own {e : TypeId} {k n : Int} {s : ByteArray} {xa : Option Addr} {xc : Nat} {x : List Int} {a : Option Addr} {cap : Nat} {ms : List M} {w : World} {lo : Nat} (h : (synM e k n s xa xc x a cap ms).Mine w lo) : (SynOwn e xa xc x a cap ms).Mine w lo :=
  ⟨h.own.2.2.2, by simpa [synM, SynOwn, M.blocks, M.blocksL] using h.dup⟩
theorem SynOwn_blocks (e : TypeId) (xa : Option Addr) (xc : Nat) (x : List Int) (a : Option Addr) (cap : Nat) (ms : List M) : (SynOwn e xa xc x a cap ms).blocks = addrBlocks xa ++ (M.sl a cap 5 e ms).blocks := by
  simp [SynOwn, M.blocks, M.blocksL, intM_blocks]
theorem SynOwn_dis' {e : TypeId} {xa : Option Addr} {xc : Nat} {x : List Int} {a : Option Addr} {cap : Nat} {ms : List M} {w : World} {lo : Nat} (h : (SynOwn e xa xc x a cap ms).Mine w lo) : ∀ b ∈ (M.sl a cap 5 e ms).blocks, b ∉ addrBlocks xa := by
  intro b hb hn
  have := h.dup
  simp only [SynOwn, M.blocks, M.blocksL, List.append_nil, intM_blocks] at this
  exact (List.nodup_append.1 this).2.2 b hn b (by simpa [M.blocks] using hb) rfl
/-- Element j, a piece of syntax, is written anew behind a call that made its inner rows anew. -/
theorem M.Mine.mixElem {w w' : World} {lo g cap pb j : Nat} {e : TypeId} {xaE : Option Addr} {xcE : Nat} {xE : List Int} {ns : List M} (h : (SynOwn e xaE xcE xE (some ⟨g, 0, none⟩) cap ns).Mine w lo) (hj : j < ns.length)
    {k1 n1 : Int} {s1 : ByteArray} {xa1 : Option Addr} {xc1 : Nat} {x1 : List Int} {a1 : Option Addr} {cap1 : Nat} {ms1 : List M} (hx : ns[j] = synM e k1 n1 s1 xa1 xc1 x1 a1 cap1 ms1)
    {xa2 : Option Addr} {xc2 : Nat} {x2 : List Int} {ms2 : List M} (h2 : (SynOwn e xa2 xc2 x2 a1 cap1 ms2).Mine w' lo) (hl2 : ms2.length = ms1.length) (ho : Only (pb :: (M.sl a1 cap1 5 e ms1).blocks) w w') (hp : pb < lo)
    (hb : ∀ b ∈ (M.sl a1 cap1 5 e ms2).blocks, b ∈ (M.sl a1 cap1 5 e ms1).blocks ∨ w.heap.size ≤ b) (hb' : ∀ b ∈ addrBlocks xa2, b ∈ addrBlocks xa1 ∨ w.heap.size ≤ b) :
    (SynOwn e xaE xcE xE (some ⟨g, 0, none⟩) cap (ns.set j (synM e k1 n1 s1 xa2 xc2 x2 a1 cap1 ms2))).Mine (setCells w' g (j * 5) (synM e k1 n1 s1 xa2 xc2 x2 a1 cap1 ms2).cells) lo ∧
      (∀ b ∈ (M.sl (some ⟨g, 0, none⟩) cap 5 e (ns.set j (synM e k1 n1 s1 xa2 xc2 x2 a1 cap1 ms2))).blocks, b ∈ (M.sl (some ⟨g, 0, none⟩) cap 5 e ns).blocks ∨ w.heap.size ≤ b) := by
  have hms := SynOwn_ms h
  have hxE := SynOwn_x h
  have hdis := SynOwn_dis' h
  obtain ⟨g1, hg1, hgl, hgw⟩ := hms.addr (by omega)
  simp only [Option.some.injEq, Addr.mk.injEq, and_true] at hg1
  subst hg1
  have hin := hms.inner j hj
  have hsz := ho.size
  -- the element as it is behind the call
  have hel : (synM e k1 n1 s1 xa1 xc1 x1 a1 cap1 ms2).cells = (ns[j]).cells := by rw [hx]; simp [synM, M.cells, M.cellsL, hl2]
  rw [hx] at hin
  have hso := synM_own hin
  have hd1 := SynOwn_dis' hso
  have hlt1 := hin.lt
  have hx1 : (M.sl xa1 xc1 1 3 (intM x1)).Mine w' lo := (SynOwn_x hso).only ho fun b hb hn => by
    have hb2 : b ∈ addrBlocks xa1 := by simpa [M.blocks, intM_blocks] using hb
    rcases List.mem_cons.1 hn with rfl | hn
    · have := (hlt1 b (by rw [synM_blocks]; simp [hb2])).1; omega
    · exact hd1 b hn hb2
  have hm2 := SynOwn_ms h2
  have hmid : (synM e k1 n1 s1 xa1 xc1 x1 a1 cap1 ms2).Mine w' lo := by
    refine ⟨⟨rfl, rfl, rfl, hx1.own, hm2.own, trivial⟩, ?_⟩
    rw [synM_blocks]
    refine List.nodup_append.2 ⟨by have := hx1.dup; simpa [M.blocks, intM_blocks] using this, hm2.dup, fun b hb1 b' hb2 he => ?_⟩
    subst he
    rcases hb b hb2 with h3 | h3
    · exact hd1 b h3 hb1
    · have := (hlt1 b (by rw [synM_blocks]; simp [hb1])).2; omega
  have hrow := hms.setSubN j hj (synM e k1 n1 s1 xa1 xc1 x1 a1 cap1 ms2) hel hmid (fun b hb1 => by
    rw [hx, synM_blocks]; rw [synM_blocks] at hb1
    rcases List.mem_append.1 hb1 with h3 | h3
    · exact .inl (by simp [h3])
    · rcases hb b h3 with h4 | h4
      · exact .inl (by simp [h4])
      · exact .inr h4) ho (fun b hb1 => by
    rw [hx, synM_blocks]
    rcases List.mem_cons.1 hb1 with rfl | h3
    · exact .inr hp
    · exact .inl (by simp [h3]))
  have hfin : (synM e k1 n1 s1 xa2 xc2 x2 a1 cap1 ms2).Mine w' lo := by
    refine ⟨⟨rfl, rfl, rfl, (SynOwn_x h2).own, hm2.own, trivial⟩, ?_⟩
    rw [synM_blocks]
    have := h2.dup
    rwa [SynOwn_blocks] at this
  have hlenS : j < (ns.set j (synM e k1 n1 s1 xa1 xc1 x1 a1 cap1 ms2)).length := by simpa using hj
  have hold : ∀ b ∈ M.blocksL (ns.set j (synM e k1 n1 s1 xa1 xc1 x1 a1 cap1 ms2)), b ∈ (synM e k1 n1 s1 xa1 xc1 x1 a1 cap1 ms2).blocks ∨ b ∈ M.blocksL ns := fun b hb1 => by
    obtain ⟨y, hy, hby⟩ := mem_blocksL.1 hb1
    rcases List.mem_or_eq_of_mem_set hy with h1 | rfl
    · exact .inr (mem_blocksL.2 ⟨y, h1, hby⟩)
    · exact .inl hby
  have hnslt : ∀ b ∈ M.blocksL ns, b < w.heap.size := fun b hb1 => (hms.lt b (by simp [M.blocks, hb1])).2
  have hd2 := SynOwn_dis' h2
  have hset := hrow.setElem j hlenS (synM e k1 n1 s1 xa2 xc2 x2 a1 cap1 ms2) (by simp [synM, M.cells, M.cellsL]) hfin (fun b hb1 => by
    rw [List.getElem_set_self, synM_blocks]
    rw [synM_blocks] at hb1
    have hgn : g ∉ M.blocksL (ns.set j (synM e k1 n1 s1 xa1 xc1 x1 a1 cap1 ms2)) := fun hn => by
      have := hrow.dup
      simp only [M.blocks, addrBlocks] at this
      exact (List.nodup_append.1 this).2.2 g (by simp) g hn rfl
    have hgm : ∀ c ∈ (synM e k1 n1 s1 xa1 xc1 x1 a1 cap1 ms2).blocks, c ∈ M.blocksL (ns.set j (synM e k1 n1 s1 xa1 xc1 x1 a1 cap1 ms2)) := fun c hc => mem_blocksL.2 ⟨_, List.mem_set hj _, hc⟩
    rcases List.mem_append.1 hb1 with h3 | h3
    · rcases hb' b h3 with h4 | h4
      · exact ⟨fun he => hgn (he ▸ hgm b (by rw [synM_blocks]; simp [h4])), .inl (by simp [h4])⟩
      · refine ⟨by omega, .inr fun hn => ?_⟩
        rcases hold b hn with h5 | h5
        · rw [synM_blocks] at h5
          rcases List.mem_append.1 h5 with h6 | h6
          · have := (hlt1 b (by rw [synM_blocks]; simp [h6])).2; omega
          · exact hd2 b h6 h3
        · have := hnslt b h5; omega
    · exact ⟨fun he => hgn (he ▸ hgm b (by rw [synM_blocks]; simp [h3])), .inl (by simp [h3])⟩)
  rw [List.set_set] at hset
  have hbl : ∀ b ∈ (M.sl (some ⟨g, 0, none⟩) cap 5 e (ns.set j (synM e k1 n1 s1 xa2 xc2 x2 a1 cap1 ms2))).blocks, b ∈ (M.sl (some ⟨g, 0, none⟩) cap 5 e ns).blocks ∨ w.heap.size ≤ b := fun b hb1 => by
    simp only [M.blocks] at hb1 ⊢
    rcases List.mem_append.1 hb1 with h3 | h3
    · exact .inl (by simp [h3])
    · obtain ⟨y, hy, hby⟩ := mem_blocksL.1 h3
      rcases List.mem_or_eq_of_mem_set hy with h1 | rfl
      · exact .inl (by rw [List.mem_append]; exact .inr (mem_blocksL.2 ⟨y, h1, hby⟩))
      · rw [synM_blocks] at hby
        have hmj : ∀ c ∈ (synM e k1 n1 s1 xa1 xc1 x1 a1 cap1 ms1).blocks, c ∈ addrBlocks (some (⟨g, 0, none⟩ : Addr)) ++ M.blocksL ns := fun c hc => by rw [List.mem_append]; exact .inr (mem_blocksL.2 ⟨_, List.getElem_mem hj, by rw [hx]; exact hc⟩)
        rcases List.mem_append.1 hby with h5 | h5
        · rcases hb' b h5 with h6 | h6
          · exact .inl (hmj b (by rw [synM_blocks]; simp [h6]))
          · exact .inr h6
        · rcases hb b h5 with h6 | h6
          · exact .inl (hmj b (by rw [synM_blocks]; simp [h6]))
          · exact .inr h6
  refine ⟨?_, hbl⟩
  -- the row of scopes beside it
  have hxE' : (M.sl xaE xcE 1 3 (intM xE)).Mine (setCells w' g (j * 5) (synM e k1 n1 s1 xa2 xc2 x2 a1 cap1 ms2).cells) lo := by
    refine ⟨M.Own.frame _ hxE.own fun b hb1 => ?_, hxE.dup⟩
    have hb2 : b ∈ addrBlocks xaE := by simpa [M.blocks, intM_blocks] using hb1
    have hlt := hxE.lt b hb1
    have hbg : b ≠ g := fun he => hdis g (by simp [M.blocks, addrBlocks]) (he ▸ hb2)
    rw [setCells_other g b hbg]
    refine ho.block b hlt.2 fun hn => ?_
    rcases List.mem_cons.1 hn with rfl | hn
    · omega
    · refine hdis b ?_ hb2
      simp only [M.blocks]
      rw [List.mem_append]
      exact .inr (mem_blocksL.2 ⟨_, List.getElem_mem hj, by rw [hx, synM_blocks]; simp [hn]⟩)
  refine ⟨⟨hxE'.own, hset.own, trivial⟩, ?_⟩
  rw [SynOwn_blocks]
  refine List.nodup_append.2 ⟨by have := hxE'.dup; simpa [M.blocks, intM_blocks] using this, hset.dup, fun b hb1 b' hb2 he => ?_⟩
  subst he
  have hlt := hxE.lt b (by simpa [M.blocks, intM_blocks] using hb1)
  rcases hbl b hb2 with h3 | h3
  · exact hdis b h3 hb1
  · omega
end Go.Proofs.Ytghbnehocggnnaa
