/-
  Walks: the datum of a piece of syntax. No condition. (printed by wip/tools/mkt1.py)
-/
import Derived.Test.YtoflfamfhpijcaaDoorBox
import Derived.Test.YtoflfamfhpijcaaDoorC2
import Derived.Test.YtoflfamfhpijcaaDoorSM1
import Derived.Test.YtoflfamfhpijcaaDoorY9
set_option linter.unusedVariables false
set_option linter.unusedSimpArgs false
set_option maxRecDepth 100000
namespace Go.Proofs.YtoflfamfhpijcaaDoor
open Go.RowKit

mutual
def datOf : Syn → Dat
  | .mk k n s _ ds => .mk k n s (datOfL ds)
def datOfL : List Syn → List Dat
  | [] => []
  | d :: r => datOf d :: datOfL r
end
theorem datOfL_append : ∀ (ds es : List Syn), datOfL (ds ++ es) = datOfL ds ++ datOfL es
  | [], es => by simp [datOfL]
  | d :: r, es => by simp only [List.cons_append, datOfL]; rw [datOfL_append r es]
theorem datOfL_take {ds : List Syn} {j : Nat} {k n : Int} {s : ByteArray} {x : List Int} {es : List Syn} (h : ds[j]? = some (.mk k n s x es)) : datOfL (ds.take (j + 1)) = datOfL (ds.take j) ++ [.mk k n s (datOfL es)] := by
  rw [take_snoc h, datOfL_append]; simp [datOfL, datOf]
theorem datOfL_count (ds : List Syn) : Dat.countL (datOfL ds) = Syn.countL ds := by
  refine Syn.inductL (P := fun ds => Dat.countL (datOfL ds) = Syn.countL ds) (fun ds ih => ?_) ds
  induction ds with
  | nil => simp [Syn.countL, datOfL, Dat.countL]
  | cons d r ihr =>
    obtain ⟨k, n, s, x, es⟩ := d
    have h1 := ih k n s x es (List.mem_cons_self ..)
    have h2 := ihr fun k n s x es hm => ih k n s x es (List.mem_cons_of_mem _ hm)
    simp only [Syn.countL, Syn.count, datOfL, datOf, Dat.countL, Dat.count] at *
    omega
/-- what DatumOf hands back -/
noncomputable def datG (k n : Int) (s : ByteArray) (x : List Int) (ds : List Syn) : Dat := if isSynB k n s x ds = true then .mk k n s (datOfL ds) else .mk 0 0 ⟨#[]⟩ []
theorem datG_yes {k n : Int} {s : ByteArray} {x : List Int} {ds : List Syn} (h : isSynB k n s x ds = true) : datG k n s x ds = .mk k n s (datOfL ds) := by simp [datG, h]
theorem datG_no {k n : Int} {s : ByteArray} {x : List Int} {ds : List Syn} (h : isSynB k n s x ds = false) : datG k n s x ds = .mk 0 0 ⟨#[]⟩ [] := by simp [datG, h]
theorem datG_count (k n : Int) (s : ByteArray) (x : List Int) (ds : List Syn) : Dat.countL (datG k n s x ds).ds ≤ Syn.countL ds := by
  unfold datG; split
  · simp only [Dat.ds_mk]; rw [datOfL_count]; omega
  · simp [Dat.countL]
def sDoSs (ds : List Syn) : Prop := ∀ (k n : Int) (s : ByteArray) (x : List Int) (xa : Option Addr) (xc : Nat) (a : Option Addr) (cap : Nat) (ms : List M) (w : World), Syn.countL ds ≤ 1000000000 → Syn.IsL 69 ds ms → (M.sl a cap 5 69 ms).In w →
    Calls Tryd.prog 120 #[.agg #[.int .i64 k, .int .i64 n, .string s, .slice xa x.length xc, .slice a ms.length cap]] w (RetDat 31 (.mk k n s (datOfL ds)) w)
set_option maxHeartbeats 2000000 in
theorem l2Datum_calls : ∀ ds, sDoSs ds := by
  refine Syn.inductL fun ds ih => ?_
  intro k n s x xa xc a cap ms w hB hi hin
  have hl := hi.length
  have hcap := hin.len
  have hdl := Syn.length_le ds
  have IH := Lib.hid ih; clear ih; have HIN := Lib.hid hin; clear hin; have HI := Lib.hid hi; clear hi; have HL := Lib.hid hl; clear hl
  go_enter Tryd.func120, Tryd.ntmps120
  go_wp2_with fail
  go_loopw [16] (fun i wr => ∃ (j : Nat) (a' : Option Addr) (cap' : Nat) (ms' : List M), j ≤ ms.length ∧ i = .int .i64 j ∧ ms'.length = j ∧ Dat.IsL 31 (datOfL (ds.take j)) ms' ∧ (M.sl a' cap' 4 31 ms').Mine wr (w.heap.size + 1 + 1 + 1) ∧
      DBox (w.heap.size + 1 + 1) k n s (.slice a' ms'.length cap') wr ∧ DBox (w.heap.size + 1) 0 0 ⟨#[]⟩ (.slice none 0 0) wr ∧ Below w.heap.size w wr ∧ w.heap.size + 1 + 1 + 1 ≤ wr.heap.size) (fun i _ => ms.length - (intOf i).toNat)
  case atStart => exact ⟨0, none, 0, [], Nat.zero_le _, rfl, rfl, by simp [datOfL, Dat.IsL], M.Mine.nil _ _ _ _ (by decide), by constructor <;> simp [go_sem], by constructor <;> simp [go_sem], by (repeat (first | with_reducible assumption | with_reducible exact Below.refl _ _ | with_reducible refine Below.drew ?_ | with_reducible refine belowDrewN ?_ _ | ((with_reducible refine Below.setCell ?_ ?_ _); rotate_left; focus (first | omega | (simp; done) | (simp; omega))) | ((with_reducible refine Below.alloc ?_ ?_ _); rotate_left; focus (first | omega | (simp; done) | (simp; omega))))), by simp⟩
  case round =>
    obtain ⟨j, a', cap', ms', hj, rfl, hj', hi', hm', hq, hr, hb, hsz⟩ := hrel
    obtain ⟨q0, q1, q2, q3, e0, e1, e2, e3⟩ := hq
    obtain ⟨r0, r1, r2, r3, g0, g1, g2, g3⟩ := hr
    have hq : DBox (w.heap.size + 1 + 1) k n s (.slice a' ms'.length cap') wr := ⟨q0, q1, q2, q3, e0, e1, e2, e3⟩
    have hr : DBox (w.heap.size + 1) 0 0 ⟨#[]⟩ (.slice none 0 0) wr := ⟨r0, r1, r2, r3, g0, g1, g2, g3⟩
    have p3 := hq.lt
    have p2 := hr.lt
    by_cases hlt : j < ms.length
    · obtain ⟨b, off, k1, n1, s1, x1, ds1, xa1, xc1, a1, cap1, ms1, rfl, hd, hi1, hx1, hin1, c0, c1, c2, c3, c4⟩ := Syn.elem (HIN.out.below hb) HI.out j hlt
      obtain ⟨ht, hle⟩ := Syn.countL_le ds j _ hd
      simp only [Syn.count] at hle
      clear ht
      have HD := Lib.hid hd; clear hd; have HI1 := Lib.hid hi1; clear hi1; have HX1 := Lib.hid hx1; clear hx1; have HIN1 := Lib.hid hin1; clear hin1; have HJ' := Lib.hid hj'; clear hj'; have HI' := Lib.hid hi'; clear hi'; have HM' := Lib.hid hm'; clear hm'
      have HQ := Lib.hid hq; clear hq
      have HR := Lib.hid hr; clear hr
      go_wp2_with fail
      go_region_law (first
        | (go_simp; go_at_call 120; refine (IH.out k1 n1 s1 x1 ds1 (List.mem_of_getElem? HD.out) k1 n1 s1 x1 xa1 xc1 a1 cap1 ms1 _ (by omega) HI1.out (HIN1.out.below (by (repeat (first | with_reducible assumption | with_reducible exact Below.refl _ _ | with_reducible refine Below.drew ?_ | with_reducible refine belowDrewN ?_ _ | ((with_reducible refine Below.setCell ?_ ?_ _); rotate_left; focus (first | omega | (simp; done) | (simp; omega))) | ((with_reducible refine Below.alloc ?_ ?_ _); rotate_left; focus (first | omega | (simp; done) | (simp; omega)))))))).mono ?_; rintro e w1 ⟨a2, cap2, ms2, rfl, hi2, hm2, hb2⟩; obtain ⟨hc2, hf2⟩ := bcell hb2; have hz2 := hb2.size; (try simp only [World.size_alloc, World.size_setCell, World.size_drew, sizeDrewN] at hz2 hc2 hf2); have q3c : w1.cell? ⟨w.heap.size + 1 + 1, 3, none⟩ = some (.slice a' ms'.length cap') := (by simp (disch := omega) [hc2, q3, go_sem]); have p3c : w.heap.size + 1 + 1 < w1.heap.size := (by omega); (try simp only [Dat.k_mk, Dat.n_mk, Dat.s_mk, Dat.ds_mk, List.length_nil]))
        | (refine step_push (wr := wr) rfl _ _ 23 rfl 31 _ 4 56 Tryd.underlying23 infoDat rfl (by decide) (w.heap.size + 1 + 1 + 1) a' cap' ms' rfl HM'.out hsz (by (repeat (first | with_reducible assumption | with_reducible exact Below.refl _ _ | with_reducible refine Below.drew ?_ | with_reducible refine belowDrewN ?_ _ | ((with_reducible refine Below.setCell ?_ ?_ _); rotate_left; focus (first | omega | (simp; done) | (simp; omega))) | ((with_reducible refine Below.alloc ?_ ?_ _); rotate_left; focus (first | omega | (simp; done) | (simp; omega))) | ((with_reducible refine Below.trans ?_ (Below.mono hb2 ?_)); rotate_left; focus (first | omega | (simp; done) | (simp; omega)))))) _ (.ag [.c (.int .i64 k1), .c (.int .i64 n1), .c (.string s1), .sl a2 cap2 4 31 ms2]) (by simp [M.cells, M.cellsL, intM_length]) rfl _ (Dat.mine hm2) (by simp) rfl (by have := HJ'.out; unfold maxLen; omega) (by have := HJ'.out; have := HL.out; omega) ?_; intro a3 cap3 w3 hm3 hb3 hz3 hfr3; have q3' : w3.cell? ⟨w.heap.size + 1 + 1, 3, none⟩ = some (.slice a' ms'.length cap') := (by rw [hb3.cell (by first | (simp; done) | (simp; omega))]; simp (disch := omega) [hc2, q3, go_sem]); have qf' : w3.frozen? ⟨w.heap.size + 1 + 1, 3, none⟩ = false := (by rw [hb3.frozen (by first | (simp; done) | (simp; omega))]; simp (disch := omega) [hf2, e3, go_sem])))
      all_goals
        have hbA : Below wr.heap.size wr w1 := by (repeat (first | with_reducible assumption | with_reducible exact Below.refl _ _ | with_reducible refine Below.drew ?_ | with_reducible refine belowDrewN ?_ _ | ((with_reducible refine Below.setCell ?_ ?_ _); rotate_left; focus (first | omega | (simp; done) | (simp; omega))) | ((with_reducible refine Below.alloc ?_ ?_ _); rotate_left; focus (first | omega | (simp; done) | (simp; omega))) | ((with_reducible refine Below.trans ?_ (Below.mono hb2 ?_)); rotate_left; focus (first | omega | (simp; done) | (simp; omega)))))
        have hq3 := (HQ.out.below hbA p3).below hb3 (by omega)
        have hr3 := (HR.out.below hbA p2).below hb3 (by omega)
        (try simp only [Dat.k_mk, Dat.n_mk, Dat.s_mk, Dat.ds_mk] at hi2)
        have hfin : Dat.IsL 31 (datOfL (ds.take (j + 1))) (ms' ++ [.ag [.c (.int .i64 k1), .c (.int .i64 n1), .c (.string s1), .sl a2 cap2 4 31 ms2]]) := by
          rw [datOfL_take HD.out]; exact HI'.out.snoc ⟨_, _, _, rfl, hi2⟩
        have hjj := HJ'.out
        have HFIN := Lib.hid hfin; clear hfin; have HM3 := Lib.hid hm3; clear hm3; have HI2 := Lib.hid hi2; clear hi2; have HM2 := Lib.hid hm2; clear hm2; have HQ3 := Lib.hid hq3; clear hq3; have HR3 := Lib.hid hr3; clear hr3; have HBA := Lib.hid hbA; clear hbA
        go_wp2_with fail
        go_roundw
        case rel =>
          refine ⟨j + 1, a3, cap3, ms' ++ [.ag [.c (.int .i64 k1), .c (.int .i64 n1), .c (.string s1), .sl a2 cap2 4 31 ms2]], by omega, by go_num, by simp [hjj], HFIN.out, ?_, ?_, ?_, ?_, ?_⟩
          · exact M.Mine.keep HM3.out (fun b hb1 hb2 => by simp (disch := (first | omega | (simp; omega))) only [heapSet])
          · have := HQ3.out.set3 (.slice a3 (ms'.length + 1) cap3); simpa [hjj] using this
          · exact HR3.out.far _ (by first | (simp; done) | (simp; omega))
          · (repeat (first | with_reducible assumption | with_reducible exact Below.refl _ _ | with_reducible refine Below.drew ?_ | with_reducible refine belowDrewN ?_ _ | ((with_reducible refine Below.setCell ?_ ?_ _); rotate_left; focus (first | omega | (simp; done) | (simp; omega))) | ((with_reducible refine Below.alloc ?_ ?_ _); rotate_left; focus (first | omega | (simp; done) | (simp; omega))) | ((with_reducible refine Below.trans ?_ (Below.mono hb2 ?_)); rotate_left; focus (first | omega | (simp; done) | (simp; omega))) | ((with_reducible refine Below.trans ?_ (Below.mono hb3 ?_)); rotate_left; focus (first | omega | (simp; done) | (simp; omega)))))
          · simp; omega
        case measure => simp [intOf]; omega
    · have HJ' := Lib.hid hj'; clear hj'
      have HQ := Lib.hid hq; clear hq
      have HR := Lib.hid hr; clear hr
      go_wp2_with fail
      refine bodyPost_ret (v := .agg #[.int .i64 k, .int .i64 n, .string s, .slice a' ms'.length cap']) (by simp [results, Tryd.results120, go_sem, q0, q1, q2, q3, r0, r1, r2, r3, HJ'.out]) rfl ?_
      have hk2 : j = ms.length := by omega
      subst hk2
      refine ⟨a', cap', ms', rfl, ?_, ?_, ?_⟩
      · rw [HL.out, List.take_length] at hi'
        exact hi'
      · (exact M.Mine.mono (M.Mine.keep hm' (fun b hb1 hb2 => by (try simp at hb1); simp (disch := (first | omega | (simp; omega))) only [heapSet, heapNew, heapDrew, heapDrewN])) (by first | omega | (simp; done) | (simp; omega)))
      · (repeat (first | with_reducible assumption | with_reducible exact Below.refl _ _ | with_reducible refine Below.drew ?_ | with_reducible refine belowDrewN ?_ _ | ((with_reducible refine Below.setCell ?_ ?_ _); rotate_left; focus (first | omega | (simp; done) | (simp; omega))) | ((with_reducible refine Below.alloc ?_ ?_ _); rotate_left; focus (first | omega | (simp; done) | (simp; omega))) | ((with_reducible refine Below.trans ?_ (Below.mono hb ?_)); rotate_left; focus (first | omega | (simp; done) | (simp; omega)))))
end Go.Proofs.YtoflfamfhpijcaaDoor
