/-
  Walks: the syntax of a datum. No condition. (printed by wip/tools/mkt1.py)
-/
import Derived.Test.YtkofpfcbjfkdpaaBox
import Derived.Test.YtkofpfcbjfkdpaaC2
import Derived.Test.YtkofpfcbjfkdpaaSM1
import Derived.Test.YtkofpfcbjfkdpaaN6
set_option linter.unusedVariables false
set_option linter.unusedSimpArgs false
set_option maxRecDepth 100000
namespace Go.Proofs.Ytkofpfcbjfkdpaa
open Go.RowKit

mutual
def synOf : Dat → Syn
  | .mk k n s ds => .mk k n s [] (synOfL ds)
def synOfL : List Dat → List Syn
  | [] => []
  | d :: r => synOf d :: synOfL r
end
theorem synOfL_append : ∀ (ds es : List Dat), synOfL (ds ++ es) = synOfL ds ++ synOfL es
  | [], es => by simp [synOfL]
  | d :: r, es => by simp only [List.cons_append, synOfL]; rw [synOfL_append r es]
theorem synOfL_take {ds : List Dat} {j : Nat} {k n : Int} {s : ByteArray} {es : List Dat} (h : ds[j]? = some (.mk k n s es)) : synOfL (ds.take (j + 1)) = synOfL (ds.take j) ++ [.mk k n s [] (synOfL es)] := by
  rw [take_snoc h, synOfL_append]; simp [synOfL, synOf]
theorem synOfL_places (ds : List Dat) : Syn.placesL (synOfL ds) = 3 * Dat.countL ds := by
  refine Dat.inductL (P := fun ds => Syn.placesL (synOfL ds) = 3 * Dat.countL ds) (fun ds ih => ?_) ds
  induction ds with
  | nil => simp [Syn.placesL, synOfL, Dat.countL]
  | cons d r ihr =>
    obtain ⟨k, n, s, es⟩ := d
    have h1 := ih k n s es (List.mem_cons_self ..)
    have h2 := ihr fun k n s es hm => ih k n s es (List.mem_cons_of_mem _ hm)
    simp only [Syn.placesL, Syn.places, synOfL, synOf, Dat.countL, Dat.count, List.length_nil] at *
    omega
/-- what SyntaxOf hands back -/
noncomputable def synG (k n : Int) (s : ByteArray) (ds : List Dat) : Syn := if isDatB k n s ds = true then .mk k n s [] (synOfL ds) else .mk 0 0 ⟨#[]⟩ [] []
theorem synG_yes {k n : Int} {s : ByteArray} {ds : List Dat} (h : isDatB k n s ds = true) : synG k n s ds = .mk k n s [] (synOfL ds) := by simp [synG, h]
theorem synG_no {k n : Int} {s : ByteArray} {ds : List Dat} (h : isDatB k n s ds = false) : synG k n s ds = .mk 0 0 ⟨#[]⟩ [] [] := by simp [synG, h]
theorem synG_x (k n : Int) (s : ByteArray) (ds : List Dat) : (synG k n s ds).x.length = 0 := by unfold synG; split <;> rfl
theorem synG_places (k n : Int) (s : ByteArray) (ds : List Dat) : Syn.placesL (synG k n s ds).ds ≤ 3 * Dat.countL ds := by
  unfold synG; split
  · simp only [Syn.ds_mk]; rw [synOfL_places]; omega
  · simp [Syn.placesL]
def sOfDs (ds : List Dat) : Prop := ∀ (k n : Int) (s : ByteArray) (a : Option Addr) (cap : Nat) (ms : List M) (w : World), Dat.countL ds ≤ 1000000000 → Dat.IsL 31 ds ms → (M.sl a cap 4 31 ms).In w →
    Calls Try.prog 126 #[.agg #[.int .i64 k, .int .i64 n, .string s, .slice a ms.length cap]] w (RetSyn 43 (.mk k n s [] (synOfL ds)) w)
set_option maxHeartbeats 2000000 in
theorem l2Of_calls : ∀ ds, sOfDs ds := by
  refine Dat.inductL fun ds ih => ?_
  intro k n s a cap ms w hB hi hin
  have hl := hi.length
  have hcap := hin.len
  have hdl := Dat.length_le ds
  have IH := Lib.hid ih; clear ih; have HIN := Lib.hid hin; clear hin; have HI := Lib.hid hi; clear hi; have HL := Lib.hid hl; clear hl
  go_enter Try.func126, Try.ntmps126
  go_wp2_with fail
  go_loopw [16] (fun i wr => ∃ (j : Nat) (a' : Option Addr) (cap' : Nat) (ms' : List M), j ≤ ms.length ∧ i = .int .i64 j ∧ ms'.length = j ∧ Syn.IsL 43 (synOfL (ds.take j)) ms' ∧ (M.sl a' cap' 5 43 ms').Mine wr (w.heap.size + 1 + 1 + 1) ∧
      SBox (w.heap.size + 1 + 1) k n s (.slice none 0 0) (.slice a' ms'.length cap') wr ∧ SBox (w.heap.size + 1) 0 0 ⟨#[]⟩ (.slice none 0 0) (.slice none 0 0) wr ∧ Below w.heap.size w wr ∧ w.heap.size + 1 + 1 + 1 ≤ wr.heap.size) (fun i _ => ms.length - (intOf i).toNat)
  case atStart => exact ⟨0, none, 0, [], Nat.zero_le _, rfl, rfl, by simp [synOfL, Syn.IsL], M.Mine.nil _ _ _ _ (by decide), by constructor <;> simp [go_sem], by constructor <;> simp [go_sem], by (repeat (first | with_reducible assumption | with_reducible exact Below.refl _ _ | with_reducible refine Below.drew ?_ | with_reducible refine belowDrewN ?_ _ | ((with_reducible refine Below.setCell ?_ ?_ _); rotate_left; focus (first | omega | (simp; done) | (simp; omega))) | ((with_reducible refine Below.alloc ?_ ?_ _); rotate_left; focus (first | omega | (simp; done) | (simp; omega))))), by simp⟩
  case round =>
    obtain ⟨j, a', cap', ms', hj, rfl, hj', hi', hm', hq, hr, hb, hsz⟩ := hrel
    obtain ⟨q0, q1, q2, q3, q4, e0, e1, e2, e3, e4⟩ := hq
    obtain ⟨r0, r1, r2, r3, r4, g0, g1, g2, g3, g4⟩ := hr
    have hq : SBox (w.heap.size + 1 + 1) k n s (.slice none 0 0) (.slice a' ms'.length cap') wr := ⟨q0, q1, q2, q3, q4, e0, e1, e2, e3, e4⟩
    have hr : SBox (w.heap.size + 1) 0 0 ⟨#[]⟩ (.slice none 0 0) (.slice none 0 0) wr := ⟨r0, r1, r2, r3, r4, g0, g1, g2, g3, g4⟩
    have p3 := hq.lt
    have p2 := hr.lt
    by_cases hlt : j < ms.length
    · obtain ⟨b, off, k1, n1, s1, ds1, a1, cap1, ms1, rfl, hd, hi1, hin1, c0, c1, c2, c3⟩ := Dat.elem (HIN.out.below hb) HI.out j hlt
      obtain ⟨ht, hle⟩ := Dat.countL_le ds j _ hd
      simp only [Dat.count] at hle
      clear ht
      have HD := Lib.hid hd; clear hd; have HI1 := Lib.hid hi1; clear hi1; have HIN1 := Lib.hid hin1; clear hin1; have HJ' := Lib.hid hj'; clear hj'; have HI' := Lib.hid hi'; clear hi'; have HM' := Lib.hid hm'; clear hm'
      have HQ := Lib.hid hq; clear hq
      have HR := Lib.hid hr; clear hr
      go_wp2_with fail
      go_region_law (first
        | (go_simp; go_at_call 126; refine (IH.out k1 n1 s1 ds1 (List.mem_of_getElem? HD.out) k1 n1 s1 a1 cap1 ms1 _ (by omega) HI1.out (HIN1.out.below (by (repeat (first | with_reducible assumption | with_reducible exact Below.refl _ _ | with_reducible refine Below.drew ?_ | with_reducible refine belowDrewN ?_ _ | ((with_reducible refine Below.setCell ?_ ?_ _); rotate_left; focus (first | omega | (simp; done) | (simp; omega))) | ((with_reducible refine Below.alloc ?_ ?_ _); rotate_left; focus (first | omega | (simp; done) | (simp; omega)))))))).mono ?_; rintro e w1 ⟨xa2, xc2, a2, cap2, ms2, rfl, hi2, hm2, hb2⟩; obtain ⟨hc2, hf2⟩ := bcell hb2; have hz2 := hb2.size; (try simp only [World.size_alloc, World.size_setCell, World.size_drew, sizeDrewN] at hz2 hc2 hf2); have q3c : w1.cell? ⟨w.heap.size + 1 + 1, 4, none⟩ = some (.slice a' ms'.length cap') := (by simp (disch := omega) [hc2, q4, go_sem]); have p3c : w.heap.size + 1 + 1 < w1.heap.size := (by omega); (try simp only [Syn.k_mk, Syn.n_mk, Syn.s_mk, Syn.x_mk, Syn.ds_mk, List.length_nil]))
        | (refine step_push (wr := wr) rfl _ _ 41 rfl 43 _ 5 80 Try.underlying41 infoSyn rfl (by decide) (w.heap.size + 1 + 1 + 1) a' cap' ms' rfl HM'.out hsz (by (repeat (first | with_reducible assumption | with_reducible exact Below.refl _ _ | with_reducible refine Below.drew ?_ | with_reducible refine belowDrewN ?_ _ | ((with_reducible refine Below.setCell ?_ ?_ _); rotate_left; focus (first | omega | (simp; done) | (simp; omega))) | ((with_reducible refine Below.alloc ?_ ?_ _); rotate_left; focus (first | omega | (simp; done) | (simp; omega))) | ((with_reducible refine Below.trans ?_ (Below.mono hb2 ?_)); rotate_left; focus (first | omega | (simp; done) | (simp; omega)))))) _ (.ag [.c (.int .i64 k1), .c (.int .i64 n1), .c (.string s1), .sl xa2 xc2 1 3 (intM []), .sl a2 cap2 5 43 ms2]) (by simp [M.cells, M.cellsL, intM_length]) rfl _ (SynOwn_el hm2 k1 n1 s1) (by simp) rfl (by have := HJ'.out; unfold maxLen; omega) (by have := HJ'.out; have := HL.out; omega) ?_; intro a3 cap3 w3 hm3 hb3 hz3 hfr3; have q3' : w3.cell? ⟨w.heap.size + 1 + 1, 4, none⟩ = some (.slice a' ms'.length cap') := (by rw [hb3.cell (by first | (simp; done) | (simp; omega))]; simp (disch := omega) [hc2, q4, go_sem]); have qf' : w3.frozen? ⟨w.heap.size + 1 + 1, 4, none⟩ = false := (by rw [hb3.frozen (by first | (simp; done) | (simp; omega))]; simp (disch := omega) [hf2, e4, go_sem])))
      all_goals
        have hbA : Below wr.heap.size wr w1 := by (repeat (first | with_reducible assumption | with_reducible exact Below.refl _ _ | with_reducible refine Below.drew ?_ | with_reducible refine belowDrewN ?_ _ | ((with_reducible refine Below.setCell ?_ ?_ _); rotate_left; focus (first | omega | (simp; done) | (simp; omega))) | ((with_reducible refine Below.alloc ?_ ?_ _); rotate_left; focus (first | omega | (simp; done) | (simp; omega))) | ((with_reducible refine Below.trans ?_ (Below.mono hb2 ?_)); rotate_left; focus (first | omega | (simp; done) | (simp; omega)))))
        have hq3 := (HQ.out.below hbA p3).below hb3 (by omega)
        have hr3 := (HR.out.below hbA p2).below hb3 (by omega)
        (try simp only [Syn.k_mk, Syn.n_mk, Syn.s_mk, Syn.x_mk, Syn.ds_mk] at hi2)
        have hfin : Syn.IsL 43 (synOfL (ds.take (j + 1))) (ms' ++ [.ag [.c (.int .i64 k1), .c (.int .i64 n1), .c (.string s1), .sl xa2 xc2 1 3 (intM []), .sl a2 cap2 5 43 ms2]]) := by
          rw [synOfL_take HD.out]; exact HI'.out.snoc ⟨_, _, _, _, _, rfl, hi2⟩
        have hjj := HJ'.out
        have HFIN := Lib.hid hfin; clear hfin; have HM3 := Lib.hid hm3; clear hm3; have HI2 := Lib.hid hi2; clear hi2; have HM2 := Lib.hid hm2; clear hm2; have HQ3 := Lib.hid hq3; clear hq3; have HR3 := Lib.hid hr3; clear hr3; have HBA := Lib.hid hbA; clear hbA
        go_wp2_with fail
        go_roundw
        case rel =>
          refine ⟨j + 1, a3, cap3, ms' ++ [.ag [.c (.int .i64 k1), .c (.int .i64 n1), .c (.string s1), .sl xa2 xc2 1 3 (intM []), .sl a2 cap2 5 43 ms2]], by omega, by go_num, by simp [hjj], HFIN.out, ?_, ?_, ?_, ?_, ?_⟩
          · exact M.Mine.keep HM3.out (fun b hb1 hb2 => by simp (disch := (first | omega | (simp; omega))) only [heapSet])
          · have := HQ3.out.set4 (.slice a3 (ms'.length + 1) cap3); simpa [hjj] using this
          · exact HR3.out.far _ (by first | (simp; done) | (simp; omega))
          · (repeat (first | with_reducible assumption | with_reducible exact Below.refl _ _ | with_reducible refine Below.drew ?_ | with_reducible refine belowDrewN ?_ _ | ((with_reducible refine Below.setCell ?_ ?_ _); rotate_left; focus (first | omega | (simp; done) | (simp; omega))) | ((with_reducible refine Below.alloc ?_ ?_ _); rotate_left; focus (first | omega | (simp; done) | (simp; omega))) | ((with_reducible refine Below.trans ?_ (Below.mono hb2 ?_)); rotate_left; focus (first | omega | (simp; done) | (simp; omega))) | ((with_reducible refine Below.trans ?_ (Below.mono hb3 ?_)); rotate_left; focus (first | omega | (simp; done) | (simp; omega)))))
          · simp; omega
        case measure => simp [intOf]; omega
    · have HJ' := Lib.hid hj'; clear hj'
      have HQ := Lib.hid hq; clear hq
      have HR := Lib.hid hr; clear hr
      go_wp2_with fail
      refine bodyPost_ret (v := .agg #[.int .i64 k, .int .i64 n, .string s, .slice none 0 0, .slice a' ms'.length cap']) (by simp [results, Try.results126, go_sem, q0, q1, q2, q3, q4, r0, r1, r2, r3, r4, HJ'.out]) rfl ?_
      have hk2 : j = ms.length := by omega
      subst hk2
      refine ⟨none, 0, a', cap', ms', rfl, ?_, ?_, ?_⟩
      · rw [HL.out, List.take_length] at hi'
        exact hi'
      · exact SynOwn_two (c := w.heap.size + 1 + 1 + 1) (M.Mine.nil _ _ _ _ (by decide)) (by (exact M.Mine.mono (M.Mine.keep hm' (fun b hb1 hb2 => by (try simp at hb1); simp (disch := (first | omega | (simp; omega))) only [heapSet, heapNew, heapDrew, heapDrewN])) (by first | omega | (simp; done) | (simp; omega)))) (by omega) (by simp [M.blocks, addrBlocks, intM, M.blocksL])
      · (repeat (first | with_reducible assumption | with_reducible exact Below.refl _ _ | with_reducible refine Below.drew ?_ | with_reducible refine belowDrewN ?_ _ | ((with_reducible refine Below.setCell ?_ ?_ _); rotate_left; focus (first | omega | (simp; done) | (simp; omega))) | ((with_reducible refine Below.alloc ?_ ?_ _); rotate_left; focus (first | omega | (simp; done) | (simp; omega))) | ((with_reducible refine Below.trans ?_ (Below.mono hb ?_)); rotate_left; focus (first | omega | (simp; done) | (simp; omega)))))
def iOfDs (ds : List Dat) : Prop := ∀ (k n : Int) (s : ByteArray) (a : Option Addr) (cap : Nat) (ms : List M) (w : World), Dat.countL ds ≤ 1000000000 → Dat.IsL 31 ds ms → (M.sl a cap 4 31 ms).In w →
    Calls Try.prog 127 #[.agg #[.int .i64 k, .int .i64 n, .string s, .slice a ms.length cap]] w (RetSyn 43 (.mk k n s [] (synOfL ds)) w)
set_option maxHeartbeats 2000000 in
theorem iToSyntax_calls : ∀ ds, iOfDs ds := by
  refine Dat.inductL fun ds ih => ?_
  intro k n s a cap ms w hB hi hin
  have hl := hi.length
  have hcap := hin.len
  have hdl := Dat.length_le ds
  have IH := Lib.hid ih; clear ih; have HIN := Lib.hid hin; clear hin; have HI := Lib.hid hi; clear hi; have HL := Lib.hid hl; clear hl
  go_enter Try.func127, Try.ntmps127
  go_wp2_with fail
  go_loopw [16] (fun i wr => ∃ (j : Nat) (a' : Option Addr) (cap' : Nat) (ms' : List M), j ≤ ms.length ∧ i = .int .i64 j ∧ ms'.length = j ∧ Syn.IsL 43 (synOfL (ds.take j)) ms' ∧ (M.sl a' cap' 5 43 ms').Mine wr (w.heap.size + 1 + 1 + 1) ∧
      SBox (w.heap.size + 1 + 1) k n s (.slice none 0 0) (.slice a' ms'.length cap') wr ∧ SBox (w.heap.size + 1) 0 0 ⟨#[]⟩ (.slice none 0 0) (.slice none 0 0) wr ∧ Below w.heap.size w wr ∧ w.heap.size + 1 + 1 + 1 ≤ wr.heap.size) (fun i _ => ms.length - (intOf i).toNat)
  case atStart => exact ⟨0, none, 0, [], Nat.zero_le _, rfl, rfl, by simp [synOfL, Syn.IsL], M.Mine.nil _ _ _ _ (by decide), by constructor <;> simp [go_sem], by constructor <;> simp [go_sem], by (repeat (first | with_reducible assumption | with_reducible exact Below.refl _ _ | with_reducible refine Below.drew ?_ | with_reducible refine belowDrewN ?_ _ | ((with_reducible refine Below.setCell ?_ ?_ _); rotate_left; focus (first | omega | (simp; done) | (simp; omega))) | ((with_reducible refine Below.alloc ?_ ?_ _); rotate_left; focus (first | omega | (simp; done) | (simp; omega))))), by simp⟩
  case round =>
    obtain ⟨j, a', cap', ms', hj, rfl, hj', hi', hm', hq, hr, hb, hsz⟩ := hrel
    obtain ⟨q0, q1, q2, q3, q4, e0, e1, e2, e3, e4⟩ := hq
    obtain ⟨r0, r1, r2, r3, r4, g0, g1, g2, g3, g4⟩ := hr
    have hq : SBox (w.heap.size + 1 + 1) k n s (.slice none 0 0) (.slice a' ms'.length cap') wr := ⟨q0, q1, q2, q3, q4, e0, e1, e2, e3, e4⟩
    have hr : SBox (w.heap.size + 1) 0 0 ⟨#[]⟩ (.slice none 0 0) (.slice none 0 0) wr := ⟨r0, r1, r2, r3, r4, g0, g1, g2, g3, g4⟩
    have p3 := hq.lt
    have p2 := hr.lt
    by_cases hlt : j < ms.length
    · obtain ⟨b, off, k1, n1, s1, ds1, a1, cap1, ms1, rfl, hd, hi1, hin1, c0, c1, c2, c3⟩ := Dat.elem (HIN.out.below hb) HI.out j hlt
      obtain ⟨ht, hle⟩ := Dat.countL_le ds j _ hd
      simp only [Dat.count] at hle
      clear ht
      have HD := Lib.hid hd; clear hd; have HI1 := Lib.hid hi1; clear hi1; have HIN1 := Lib.hid hin1; clear hin1; have HJ' := Lib.hid hj'; clear hj'; have HI' := Lib.hid hi'; clear hi'; have HM' := Lib.hid hm'; clear hm'
      have HQ := Lib.hid hq; clear hq
      have HR := Lib.hid hr; clear hr
      go_wp2_with fail
      go_region_law (first
        | (go_simp; go_at_call 127; refine (IH.out k1 n1 s1 ds1 (List.mem_of_getElem? HD.out) k1 n1 s1 a1 cap1 ms1 _ (by omega) HI1.out (HIN1.out.below (by (repeat (first | with_reducible assumption | with_reducible exact Below.refl _ _ | with_reducible refine Below.drew ?_ | with_reducible refine belowDrewN ?_ _ | ((with_reducible refine Below.setCell ?_ ?_ _); rotate_left; focus (first | omega | (simp; done) | (simp; omega))) | ((with_reducible refine Below.alloc ?_ ?_ _); rotate_left; focus (first | omega | (simp; done) | (simp; omega)))))))).mono ?_; rintro e w1 ⟨xa2, xc2, a2, cap2, ms2, rfl, hi2, hm2, hb2⟩; obtain ⟨hc2, hf2⟩ := bcell hb2; have hz2 := hb2.size; (try simp only [World.size_alloc, World.size_setCell, World.size_drew, sizeDrewN] at hz2 hc2 hf2); have q3c : w1.cell? ⟨w.heap.size + 1 + 1, 4, none⟩ = some (.slice a' ms'.length cap') := (by simp (disch := omega) [hc2, q4, go_sem]); have p3c : w.heap.size + 1 + 1 < w1.heap.size := (by omega); (try simp only [Syn.k_mk, Syn.n_mk, Syn.s_mk, Syn.x_mk, Syn.ds_mk, List.length_nil]))
        | (refine step_push (wr := wr) rfl _ _ 41 rfl 43 _ 5 80 Try.underlying41 infoSyn rfl (by decide) (w.heap.size + 1 + 1 + 1) a' cap' ms' rfl HM'.out hsz (by (repeat (first | with_reducible assumption | with_reducible exact Below.refl _ _ | with_reducible refine Below.drew ?_ | with_reducible refine belowDrewN ?_ _ | ((with_reducible refine Below.setCell ?_ ?_ _); rotate_left; focus (first | omega | (simp; done) | (simp; omega))) | ((with_reducible refine Below.alloc ?_ ?_ _); rotate_left; focus (first | omega | (simp; done) | (simp; omega))) | ((with_reducible refine Below.trans ?_ (Below.mono hb2 ?_)); rotate_left; focus (first | omega | (simp; done) | (simp; omega)))))) _ (.ag [.c (.int .i64 k1), .c (.int .i64 n1), .c (.string s1), .sl xa2 xc2 1 3 (intM []), .sl a2 cap2 5 43 ms2]) (by simp [M.cells, M.cellsL, intM_length]) rfl _ (SynOwn_el hm2 k1 n1 s1) (by simp) rfl (by have := HJ'.out; unfold maxLen; omega) (by have := HJ'.out; have := HL.out; omega) ?_; intro a3 cap3 w3 hm3 hb3 hz3 hfr3; have q3' : w3.cell? ⟨w.heap.size + 1 + 1, 4, none⟩ = some (.slice a' ms'.length cap') := (by rw [hb3.cell (by first | (simp; done) | (simp; omega))]; simp (disch := omega) [hc2, q4, go_sem]); have qf' : w3.frozen? ⟨w.heap.size + 1 + 1, 4, none⟩ = false := (by rw [hb3.frozen (by first | (simp; done) | (simp; omega))]; simp (disch := omega) [hf2, e4, go_sem])))
      all_goals
        have hbA : Below wr.heap.size wr w1 := by (repeat (first | with_reducible assumption | with_reducible exact Below.refl _ _ | with_reducible refine Below.drew ?_ | with_reducible refine belowDrewN ?_ _ | ((with_reducible refine Below.setCell ?_ ?_ _); rotate_left; focus (first | omega | (simp; done) | (simp; omega))) | ((with_reducible refine Below.alloc ?_ ?_ _); rotate_left; focus (first | omega | (simp; done) | (simp; omega))) | ((with_reducible refine Below.trans ?_ (Below.mono hb2 ?_)); rotate_left; focus (first | omega | (simp; done) | (simp; omega)))))
        have hq3 := (HQ.out.below hbA p3).below hb3 (by omega)
        have hr3 := (HR.out.below hbA p2).below hb3 (by omega)
        (try simp only [Syn.k_mk, Syn.n_mk, Syn.s_mk, Syn.x_mk, Syn.ds_mk] at hi2)
        have hfin : Syn.IsL 43 (synOfL (ds.take (j + 1))) (ms' ++ [.ag [.c (.int .i64 k1), .c (.int .i64 n1), .c (.string s1), .sl xa2 xc2 1 3 (intM []), .sl a2 cap2 5 43 ms2]]) := by
          rw [synOfL_take HD.out]; exact HI'.out.snoc ⟨_, _, _, _, _, rfl, hi2⟩
        have hjj := HJ'.out
        have HFIN := Lib.hid hfin; clear hfin; have HM3 := Lib.hid hm3; clear hm3; have HI2 := Lib.hid hi2; clear hi2; have HM2 := Lib.hid hm2; clear hm2; have HQ3 := Lib.hid hq3; clear hq3; have HR3 := Lib.hid hr3; clear hr3; have HBA := Lib.hid hbA; clear hbA
        go_wp2_with fail
        go_roundw
        case rel =>
          refine ⟨j + 1, a3, cap3, ms' ++ [.ag [.c (.int .i64 k1), .c (.int .i64 n1), .c (.string s1), .sl xa2 xc2 1 3 (intM []), .sl a2 cap2 5 43 ms2]], by omega, by go_num, by simp [hjj], HFIN.out, ?_, ?_, ?_, ?_, ?_⟩
          · exact M.Mine.keep HM3.out (fun b hb1 hb2 => by simp (disch := (first | omega | (simp; omega))) only [heapSet])
          · have := HQ3.out.set4 (.slice a3 (ms'.length + 1) cap3); simpa [hjj] using this
          · exact HR3.out.far _ (by first | (simp; done) | (simp; omega))
          · (repeat (first | with_reducible assumption | with_reducible exact Below.refl _ _ | with_reducible refine Below.drew ?_ | with_reducible refine belowDrewN ?_ _ | ((with_reducible refine Below.setCell ?_ ?_ _); rotate_left; focus (first | omega | (simp; done) | (simp; omega))) | ((with_reducible refine Below.alloc ?_ ?_ _); rotate_left; focus (first | omega | (simp; done) | (simp; omega))) | ((with_reducible refine Below.trans ?_ (Below.mono hb2 ?_)); rotate_left; focus (first | omega | (simp; done) | (simp; omega))) | ((with_reducible refine Below.trans ?_ (Below.mono hb3 ?_)); rotate_left; focus (first | omega | (simp; done) | (simp; omega)))))
          · simp; omega
        case measure => simp [intOf]; omega
    · have HJ' := Lib.hid hj'; clear hj'
      have HQ := Lib.hid hq; clear hq
      have HR := Lib.hid hr; clear hr
      go_wp2_with fail
      refine bodyPost_ret (v := .agg #[.int .i64 k, .int .i64 n, .string s, .slice none 0 0, .slice a' ms'.length cap']) (by simp [results, Try.results127, go_sem, q0, q1, q2, q3, q4, r0, r1, r2, r3, r4, HJ'.out]) rfl ?_
      have hk2 : j = ms.length := by omega
      subst hk2
      refine ⟨none, 0, a', cap', ms', rfl, ?_, ?_, ?_⟩
      · rw [HL.out, List.take_length] at hi'
        exact hi'
      · exact SynOwn_two (c := w.heap.size + 1 + 1 + 1) (M.Mine.nil _ _ _ _ (by decide)) (by (exact M.Mine.mono (M.Mine.keep hm' (fun b hb1 hb2 => by (try simp at hb1); simp (disch := (first | omega | (simp; omega))) only [heapSet, heapNew, heapDrew, heapDrewN])) (by first | omega | (simp; done) | (simp; omega)))) (by omega) (by simp [M.blocks, addrBlocks, intM, M.blocksL])
      · (repeat (first | with_reducible assumption | with_reducible exact Below.refl _ _ | with_reducible refine Below.drew ?_ | with_reducible refine belowDrewN ?_ _ | ((with_reducible refine Below.setCell ?_ ?_ _); rotate_left; focus (first | omega | (simp; done) | (simp; omega))) | ((with_reducible refine Below.alloc ?_ ?_ _); rotate_left; focus (first | omega | (simp; done) | (simp; omega))) | ((with_reducible refine Below.trans ?_ (Below.mono hb ?_)); rotate_left; focus (first | omega | (simp; done) | (simp; omega)))))
set_option maxHeartbeats 1000000 in
theorem sSyntaxOf_calls (k n : Int) (s : ByteArray) (ds : List Dat) (a : Option Addr) (cap : Nat) (ms : List M) (w : World) (hwf : (Dat.mk k n s ds).wf) (hB : Dat.countL ds ≤ 1000000000) (hi : Dat.IsL 31 ds ms) (hin : (M.sl a cap 4 31 ms).In w) :
    Calls Try.prog 48 #[.agg #[.int .i64 k, .int .i64 n, .string s, .slice a ms.length cap]] w (RetSyn 43 (synG k n s ds) w) := by
  have hcap := hin.len
  have HI := Lib.hid hi; clear hi; have HIN := Lib.hid hin; clear hin; have HWF := Lib.hid hwf; clear hwf
  go_enter Try.func48, Try.ntmps48
  go_wp2_with fail
  refine (sIsDatum_calls k n s ds a cap ms _ HWF.out hB HI.out (HIN.out.below (by (repeat (first | with_reducible assumption | with_reducible exact Below.refl _ _ | with_reducible refine Below.drew ?_ | with_reducible refine belowDrewN ?_ _ | ((with_reducible refine Below.setCell ?_ ?_ _); rotate_left; focus (first | omega | (simp; done) | (simp; omega))) | ((with_reducible refine Below.alloc ?_ ?_ _); rotate_left; focus (first | omega | (simp; done) | (simp; omega)))))))).mono ?_
  rintro e w1 ⟨rfl, hb1⟩
  obtain ⟨hc1, hf1⟩ := bcell hb1; have hz1 := hb1.size; (try simp only [World.size_alloc, World.size_setCell, World.size_drew, sizeDrewN] at hz1 hc1 hf1)
  have p0 : w.heap.size < w1.heap.size := by omega
  have p1 : w.heap.size + 1 < w1.heap.size := by omega
  have hq : DBox w.heap.size k n s (.slice a ms.length cap) w1 := by constructor <;> first | (simp (disch := omega) [hc1, hf1, go_sem]; done) | (simp (disch := omega) [hc1, hf1, go_sem]; rfl)
  have hr : SBox (w.heap.size + 1) 0 0 ⟨#[]⟩ (.slice none 0 0) (.slice none 0 0) w1 := by constructor <;> first | (simp (disch := omega) [hc1, hf1, go_sem]; done) | (simp (disch := omega) [hc1, hf1, go_sem]; rfl)
  obtain ⟨q0, q1, q2, q3, e0, e1, e2, e3⟩ := hq
  obtain ⟨r0, r1, r2, r3, r4, g0, g1, g2, g3, g4⟩ := hr
  clear hc1 hf1
  cases hv : isDatB k n s ds with
  | false =>
    have hg := synG_no hv
    have HV := Lib.hid hv; clear hv; have HG := Lib.hid hg; clear hg
    go_wp2_with fail
    refine bodyPost_ret (v := .agg #[.int .i64 0, .int .i64 0, .string ⟨#[]⟩, .slice none 0 0, .slice none 0 0]) (by simp [results, Try.results48, go_sem, q0, q1, q2, q3, r0, r1, r2, r3, r4]) rfl ?_
    rw [HG.out]
    refine ⟨none, 0, none, 0, [], rfl, rfl, ?_, ?_⟩
    · exact SynOwn_two (c := w.heap.size) (M.Mine.nil _ _ _ _ (by decide)) (M.Mine.nil _ _ _ _ (by decide)) (by omega) (by simp [M.blocks, addrBlocks, intM, M.blocksL])
    · (repeat (first | with_reducible assumption | with_reducible exact Below.refl _ _ | with_reducible refine Below.drew ?_ | with_reducible refine belowDrewN ?_ _ | ((with_reducible refine Below.setCell ?_ ?_ _); rotate_left; focus (first | omega | (simp; done) | (simp; omega))) | ((with_reducible refine Below.alloc ?_ ?_ _); rotate_left; focus (first | omega | (simp; done) | (simp; omega))) | ((with_reducible refine Below.trans ?_ (Below.mono hb1 ?_)); rotate_left; focus (first | omega | (simp; done) | (simp; omega)))))
  | true =>
    have hg := synG_yes hv
    have HV := Lib.hid hv; clear hv; have HG := Lib.hid hg; clear hg
    go_wp2_with fail
    refine (l2Of_calls ds k n s a cap ms _ hB HI.out (HIN.out.below (by (repeat (first | with_reducible assumption | with_reducible exact Below.refl _ _ | with_reducible refine Below.drew ?_ | with_reducible refine belowDrewN ?_ _ | ((with_reducible refine Below.setCell ?_ ?_ _); rotate_left; focus (first | omega | (simp; done) | (simp; omega))) | ((with_reducible refine Below.alloc ?_ ?_ _); rotate_left; focus (first | omega | (simp; done) | (simp; omega))) | ((with_reducible refine Below.trans ?_ (Below.mono hb1 ?_)); rotate_left; focus (first | omega | (simp; done) | (simp; omega)))))))).mono ?_
    rintro e w2 ⟨xa2, xc2, a2, cap2, ms2, rfl, hi2, hm2, hb2⟩
    obtain ⟨hc2, hf2⟩ := bcell hb2; have hz2 := hb2.size; (try simp only [World.size_alloc, World.size_setCell, World.size_drew, sizeDrewN] at hz2 hc2 hf2)
    simp only [Syn.k_mk, Syn.n_mk, Syn.s_mk, Syn.x_mk, Syn.ds_mk, List.length_nil] at hi2 hm2 ⊢
    have hr : SBox (w.heap.size + 1) 0 0 ⟨#[]⟩ (.slice none 0 0) (.slice none 0 0) w2 := by constructor <;> simp (disch := omega) [hc2, hf2, r0, r1, r2, r3, r4, g0, g1, g2, g3, g4]
    obtain ⟨s0, s1, s2, s3, s4, h0, h1, h2, h3, h4⟩ := hr
    have HI2 := Lib.hid hi2; clear hi2; have HM2 := Lib.hid hm2; clear hm2
    go_wp2_with fail
    refine bodyPost_ret (v := .agg #[.int .i64 k, .int .i64 n, .string s, .slice xa2 0 xc2, .slice a2 ms2.length cap2]) (by simp [results, Try.results48, go_sem, s0, s1, s2, s3, s4]) rfl ?_
    refine ⟨xa2, xc2, a2, cap2, ms2, by rw [HG.out]; rfl, by rw [HG.out]; exact HI2.out, ?_, ?_⟩
    · rw [HG.out]; (exact M.Mine.mono (M.Mine.keep HM2.out (fun b hb1 hb2 => by (try simp at hb1); simp (disch := (first | omega | (simp; omega))) only [heapSet, heapNew, heapDrew, heapDrewN])) (by first | omega | (simp; done) | (simp; omega)))
    · (repeat (first | with_reducible assumption | with_reducible exact Below.refl _ _ | with_reducible refine Below.drew ?_ | with_reducible refine belowDrewN ?_ _ | ((with_reducible refine Below.setCell ?_ ?_ _); rotate_left; focus (first | omega | (simp; done) | (simp; omega))) | ((with_reducible refine Below.alloc ?_ ?_ _); rotate_left; focus (first | omega | (simp; done) | (simp; omega))) | ((with_reducible refine Below.trans ?_ (Below.mono hb1 ?_)); rotate_left; focus (first | omega | (simp; done) | (simp; omega))) | ((with_reducible refine Below.trans ?_ (Below.mono hb2 ?_)); rotate_left; focus (first | omega | (simp; done) | (simp; omega)))))
set_option maxHeartbeats 1000000 in
theorem iSyntaxOf_calls (k n : Int) (s : ByteArray) (ds : List Dat) (a : Option Addr) (cap : Nat) (ms : List M) (w : World) (hwf : (Dat.mk k n s ds).wf) (hB : Dat.countL ds ≤ 1000000000) (hi : Dat.IsL 31 ds ms) (hin : (M.sl a cap 4 31 ms).In w) :
    Calls Try.prog 49 #[.agg #[.int .i64 k, .int .i64 n, .string s, .slice a ms.length cap]] w (RetSyn 43 (synG k n s ds) w) := by
  have hcap := hin.len
  have HI := Lib.hid hi; clear hi; have HIN := Lib.hid hin; clear hin; have HWF := Lib.hid hwf; clear hwf
  go_enter Try.func49, Try.ntmps49
  go_wp2_with fail
  refine (iIsDatum_calls k n s ds a cap ms _ HWF.out hB HI.out (HIN.out.below (by (repeat (first | with_reducible assumption | with_reducible exact Below.refl _ _ | with_reducible refine Below.drew ?_ | with_reducible refine belowDrewN ?_ _ | ((with_reducible refine Below.setCell ?_ ?_ _); rotate_left; focus (first | omega | (simp; done) | (simp; omega))) | ((with_reducible refine Below.alloc ?_ ?_ _); rotate_left; focus (first | omega | (simp; done) | (simp; omega)))))))).mono ?_
  rintro e w1 ⟨rfl, hb1⟩
  obtain ⟨hc1, hf1⟩ := bcell hb1; have hz1 := hb1.size; (try simp only [World.size_alloc, World.size_setCell, World.size_drew, sizeDrewN] at hz1 hc1 hf1)
  have p0 : w.heap.size < w1.heap.size := by omega
  have p1 : w.heap.size + 1 < w1.heap.size := by omega
  have hq : DBox w.heap.size k n s (.slice a ms.length cap) w1 := by constructor <;> first | (simp (disch := omega) [hc1, hf1, go_sem]; done) | (simp (disch := omega) [hc1, hf1, go_sem]; rfl)
  have hr : SBox (w.heap.size + 1) 0 0 ⟨#[]⟩ (.slice none 0 0) (.slice none 0 0) w1 := by constructor <;> first | (simp (disch := omega) [hc1, hf1, go_sem]; done) | (simp (disch := omega) [hc1, hf1, go_sem]; rfl)
  obtain ⟨q0, q1, q2, q3, e0, e1, e2, e3⟩ := hq
  obtain ⟨r0, r1, r2, r3, r4, g0, g1, g2, g3, g4⟩ := hr
  clear hc1 hf1
  cases hv : isDatB k n s ds with
  | false =>
    have hg := synG_no hv
    have HV := Lib.hid hv; clear hv; have HG := Lib.hid hg; clear hg
    go_wp2_with fail
    refine bodyPost_ret (v := .agg #[.int .i64 0, .int .i64 0, .string ⟨#[]⟩, .slice none 0 0, .slice none 0 0]) (by simp [results, Try.results49, go_sem, q0, q1, q2, q3, r0, r1, r2, r3, r4]) rfl ?_
    rw [HG.out]
    refine ⟨none, 0, none, 0, [], rfl, rfl, ?_, ?_⟩
    · exact SynOwn_two (c := w.heap.size) (M.Mine.nil _ _ _ _ (by decide)) (M.Mine.nil _ _ _ _ (by decide)) (by omega) (by simp [M.blocks, addrBlocks, intM, M.blocksL])
    · (repeat (first | with_reducible assumption | with_reducible exact Below.refl _ _ | with_reducible refine Below.drew ?_ | with_reducible refine belowDrewN ?_ _ | ((with_reducible refine Below.setCell ?_ ?_ _); rotate_left; focus (first | omega | (simp; done) | (simp; omega))) | ((with_reducible refine Below.alloc ?_ ?_ _); rotate_left; focus (first | omega | (simp; done) | (simp; omega))) | ((with_reducible refine Below.trans ?_ (Below.mono hb1 ?_)); rotate_left; focus (first | omega | (simp; done) | (simp; omega)))))
  | true =>
    have hg := synG_yes hv
    have HV := Lib.hid hv; clear hv; have HG := Lib.hid hg; clear hg
    go_wp2_with fail
    refine (iToSyntax_calls ds k n s a cap ms _ hB HI.out (HIN.out.below (by (repeat (first | with_reducible assumption | with_reducible exact Below.refl _ _ | with_reducible refine Below.drew ?_ | with_reducible refine belowDrewN ?_ _ | ((with_reducible refine Below.setCell ?_ ?_ _); rotate_left; focus (first | omega | (simp; done) | (simp; omega))) | ((with_reducible refine Below.alloc ?_ ?_ _); rotate_left; focus (first | omega | (simp; done) | (simp; omega))) | ((with_reducible refine Below.trans ?_ (Below.mono hb1 ?_)); rotate_left; focus (first | omega | (simp; done) | (simp; omega)))))))).mono ?_
    rintro e w2 ⟨xa2, xc2, a2, cap2, ms2, rfl, hi2, hm2, hb2⟩
    obtain ⟨hc2, hf2⟩ := bcell hb2; have hz2 := hb2.size; (try simp only [World.size_alloc, World.size_setCell, World.size_drew, sizeDrewN] at hz2 hc2 hf2)
    simp only [Syn.k_mk, Syn.n_mk, Syn.s_mk, Syn.x_mk, Syn.ds_mk, List.length_nil] at hi2 hm2 ⊢
    have hr : SBox (w.heap.size + 1) 0 0 ⟨#[]⟩ (.slice none 0 0) (.slice none 0 0) w2 := by constructor <;> simp (disch := omega) [hc2, hf2, r0, r1, r2, r3, r4, g0, g1, g2, g3, g4]
    obtain ⟨s0, s1, s2, s3, s4, h0, h1, h2, h3, h4⟩ := hr
    have HI2 := Lib.hid hi2; clear hi2; have HM2 := Lib.hid hm2; clear hm2
    go_wp2_with fail
    refine bodyPost_ret (v := .agg #[.int .i64 k, .int .i64 n, .string s, .slice xa2 0 xc2, .slice a2 ms2.length cap2]) (by simp [results, Try.results49, go_sem, s0, s1, s2, s3, s4]) rfl ?_
    refine ⟨xa2, xc2, a2, cap2, ms2, by rw [HG.out]; rfl, by rw [HG.out]; exact HI2.out, ?_, ?_⟩
    · rw [HG.out]; (exact M.Mine.mono (M.Mine.keep HM2.out (fun b hb1 hb2 => by (try simp at hb1); simp (disch := (first | omega | (simp; omega))) only [heapSet, heapNew, heapDrew, heapDrewN])) (by first | omega | (simp; done) | (simp; omega)))
    · (repeat (first | with_reducible assumption | with_reducible exact Below.refl _ _ | with_reducible refine Below.drew ?_ | with_reducible refine belowDrewN ?_ _ | ((with_reducible refine Below.setCell ?_ ?_ _); rotate_left; focus (first | omega | (simp; done) | (simp; omega))) | ((with_reducible refine Below.alloc ?_ ?_ _); rotate_left; focus (first | omega | (simp; done) | (simp; omega))) | ((with_reducible refine Below.trans ?_ (Below.mono hb1 ?_)); rotate_left; focus (first | omega | (simp; done) | (simp; omega))) | ((with_reducible refine Below.trans ?_ (Below.mono hb2 ?_)); rotate_left; focus (first | omega | (simp; done) | (simp; omega)))))
end Go.Proofs.Ytkofpfcbjfkdpaa
