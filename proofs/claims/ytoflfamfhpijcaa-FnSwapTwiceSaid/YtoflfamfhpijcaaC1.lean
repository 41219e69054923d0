/-
  Walks: copies of data, ListDatum. No condition.
-/
import Derived.Test.YtoflfamfhpijcaaD3
import Derived.Deep.RegionLaw
set_option linter.unusedVariables false
set_option linter.unusedSimpArgs false
set_option maxRecDepth 100000
namespace Go.Proofs.Ytoflfamfhpijcaa
open Go.RowKit

def CpDs (ds : List Dat) : Prop := ∀ (a : Option Addr) (cap : Nat) (ms : List M) (w : World), Dat.countL ds ≤ 1000000000 → Dat.IsL 31 ds ms → (M.sl a cap 4 31 ms).In w →
    Calls Try.prog 118 #[.slice a ms.length cap] w (RetDats 31 ds w)
theorem copyDatum_of (ds : List Dat) (H : CpDs ds) (k n : Int) (s : ByteArray) (a : Option Addr) (cap : Nat) (ms : List M) (w : World) (hB : Dat.countL ds ≤ 1000000000)
    (hi : Dat.IsL 31 ds ms) (hin : (M.sl a cap 4 31 ms).In w) :
    Calls Try.prog 64 #[.agg #[.int .i64 k, .int .i64 n, .string s, .slice a ms.length cap]] w (RetDat 31 (.mk k n s ds) w) := by
  have HIN := Lib.hid hin; clear hin; have HI := Lib.hid hi; clear hi; have H_ := Lib.hid H; clear H
  go_enter Try.func64, Try.ntmps64
  go_wp2_with fail
  refine (H_.out a cap ms _ hB HI.out (HIN.out.below (by (repeat (first | with_reducible assumption | with_reducible exact Below.refl _ _ | with_reducible refine Below.drew ?_ | with_reducible refine belowDrewN ?_ _ | ((with_reducible refine Below.setCell ?_ ?_ _); rotate_left; focus (first | omega | (simp; done) | (simp; omega))) | ((with_reducible refine Below.alloc ?_ ?_ _); rotate_left; focus (first | omega | (simp; done) | (simp; omega)))))))).mono ?_
  rintro e w2 ⟨a2, cap2, ms2, rfl, hi2, hm2, hb2⟩
  obtain ⟨hc2, hf2⟩ := bcell hb2; have hz2 := hb2.size; (try simp only [World.size_alloc, World.size_setCell, World.size_drew, sizeDrewN] at hz2 hc2 hf2); have hp2_0 : w.heap.size < w2.heap.size := (by omega); have hp2_1 : w.heap.size + 1 < w2.heap.size := (by omega)
  go_wp2_with fail
  refine bodyPost_ret (v := .agg #[.int .i64 k, .int .i64 n, .string s, .slice a2 ms2.length cap2]) (by simp [results, Try.results64, go_sem, hc2]) rfl ?_
  refine ⟨a2, cap2, ms2, rfl, hi2, ?_, ?_⟩
  · (exact M.Mine.mono (M.Mine.keep hm2 (fun b hb1 hb2 => by (try simp at hb1); simp (disch := (first | omega | (simp; omega))) only [heapSet, heapNew, heapDrew, heapDrewN])) (by first | omega | (simp; done) | (simp; omega)))
  · (repeat (first | with_reducible assumption | with_reducible exact Below.refl _ _ | with_reducible refine Below.drew ?_ | with_reducible refine belowDrewN ?_ _ | ((with_reducible refine Below.setCell ?_ ?_ _); rotate_left; focus (first | omega | (simp; done) | (simp; omega))) | ((with_reducible refine Below.alloc ?_ ?_ _); rotate_left; focus (first | omega | (simp; done) | (simp; omega))) | ((with_reducible refine Below.trans ?_ (Below.mono hb2 ?_)); rotate_left; focus (first | omega | (simp; done) | (simp; omega)))))
theorem copyData_calls : ∀ ds, CpDs ds := by
  refine Dat.inductL fun ds ih => ?_
  intro a cap ms w hB hi hin
  have hl := hi.length
  have hcap := hin.len
  have hdl := Dat.length_le ds
  have IH := Lib.hid ih; clear ih; have HIN := Lib.hid hin; clear hin; have HI := Lib.hid hi; clear hi; have HL := Lib.hid hl; clear hl
  go_enter Try.func118, Try.ntmps118
  go_wp2_with fail
  go_loopw [3, 8] (fun t i wr => ∃ (k : Nat) (a' : Option Addr) (cap' : Nat) (ms' : List M), k ≤ ms.length ∧ i = .int .i64 k ∧ t = .slice a' ms'.length cap' ∧ ms'.length = k ∧ Dat.IsL 31 (ds.take k) ms' ∧ (M.sl a' cap' 4 31 ms').Mine wr w.heap.size ∧ Below w.heap.size w wr ∧ w.heap.size ≤ wr.heap.size) (fun _ i _ => ms.length - (intOf i).toNat)
  case atStart => exact ⟨0, none, 0, [], Nat.zero_le _, rfl, rfl, rfl, by simp [Dat.IsL], M.Mine.nil _ _ _ _ (by decide), Below.refl _ _, Nat.le_refl _⟩
  case round =>
    obtain ⟨k', a', cap', ms', hk, rfl, rfl, hk', hi', hm', hb, hsz⟩ := hrel
    by_cases hlt : k' < ms.length
    · obtain ⟨b, off, k1, n1, s1, ds1, a1, cap1, ms1, rfl, hd, hi1, hin1, c0, c1, c2, c3⟩ := Dat.elem (HIN.out.below hb) HI.out k' hlt
      obtain ⟨ht, hle⟩ := Dat.countL_le ds k' _ hd
      simp only [Dat.count] at hle
      clear ht
      have HD := Lib.hid hd; clear hd; have HI1 := Lib.hid hi1; clear hi1; have HIN1 := Lib.hid hin1; clear hin1; have HK' := Lib.hid hk'; clear hk'; have HI' := Lib.hid hi'; clear hi'; have HM' := Lib.hid hm'; clear hm'
      go_wp2_with fail
      refine (copyDatum_of ds1 (IH.out k1 n1 s1 ds1 (List.mem_of_getElem? HD.out)) k1 n1 s1 a1 cap1 ms1 _ (by omega) HI1.out (HIN1.out.below (by (repeat (first | with_reducible assumption | with_reducible exact Below.refl _ _ | with_reducible refine Below.drew ?_ | with_reducible refine belowDrewN ?_ _ | ((with_reducible refine Below.setCell ?_ ?_ _); rotate_left; focus (first | omega | (simp; done) | (simp; omega))) | ((with_reducible refine Below.alloc ?_ ?_ _); rotate_left; focus (first | omega | (simp; done) | (simp; omega)))))))).mono ?_
      rintro e w1 ⟨a2, cap2, ms2, rfl, hi2, hm2, hb2⟩
      obtain ⟨hc2, hf2⟩ := bcell hb2; have hz2 := hb2.size; (try simp only [World.size_alloc, World.size_setCell, World.size_drew, sizeDrewN] at hz2 hc2 hf2)
      simp only [Dat.k_mk, Dat.n_mk, Dat.s_mk, Dat.ds_mk] at hi2
      go_wp2_with (at_builtin; refine wpList_push (wr := wr) rfl _ _ 29 rfl 31 _ 4 56 Try.underlying29 infoDat rfl (by decide) w.heap.size a' cap' ms' rfl HM'.out hsz ?below _ (.ag [.c (.int .i64 k1), .c (.int .i64 n1), .c (.string s1), .sl a2 cap2 4 31 ms2]) rfl rfl _ (Dat.mine hm2) ?lo rfl ?max ?bytes ?_)
      case below => (repeat (first | with_reducible assumption | with_reducible exact Below.refl _ _ | with_reducible refine Below.drew ?_ | with_reducible refine belowDrewN ?_ _ | ((with_reducible refine Below.setCell ?_ ?_ _); rotate_left; focus (first | omega | (simp; done) | (simp; omega))) | ((with_reducible refine Below.alloc ?_ ?_ _); rotate_left; focus (first | omega | (simp; done) | (simp; omega))) | ((with_reducible refine Below.trans ?_ (Below.mono hb2 ?_)); rotate_left; focus (first | omega | (simp; done) | (simp; omega)))))
      case lo => simp
      case max => have := HK'.out; unfold maxLen; omega
      case bytes => have := HK'.out; have := HL.out; omega
      intro a3 cap3 w3 hm3 hb3 hz3 hfr3
      have hfin : Dat.IsL 31 (ds.take (k' + 1)) (ms' ++ [.ag [.c (.int .i64 k1), .c (.int .i64 n1), .c (.string s1), .sl a2 cap2 4 31 ms2]]) := by
        rw [take_snoc HD.out]; exact HI'.out.snoc ⟨_, _, _, rfl, hi2⟩
      have hlen3 : (ms' ++ [M.ag [.c (.int .i64 k1), .c (.int .i64 n1), .c (.string s1), .sl a2 cap2 4 31 ms2]]).length = ms'.length + 1 := by simp
      have hk3 := HK'.out
      have HM3 := Lib.hid hm3; clear hm3; have HFIN := Lib.hid hfin; clear hfin; have HLEN3 := Lib.hid hlen3; clear hlen3; have HFR3 := Lib.hid hfr3; clear hfr3; have HK3 := Lib.hid hk3; clear hk3
      go_wp2_with fail
      go_roundw
      case rel => exact ⟨k' + 1, a3, cap3, _, by omega, by go_num, by simp, by simp [HK3.out], HFIN.out, HM3.out, by (repeat (first | with_reducible assumption | with_reducible exact Below.refl _ _ | with_reducible refine Below.drew ?_ | with_reducible refine belowDrewN ?_ _ | ((with_reducible refine Below.setCell ?_ ?_ _); rotate_left; focus (first | omega | (simp; done) | (simp; omega))) | ((with_reducible refine Below.alloc ?_ ?_ _); rotate_left; focus (first | omega | (simp; done) | (simp; omega))) | ((with_reducible refine Below.trans ?_ (Below.mono hb2 ?_)); rotate_left; focus (first | omega | (simp; done) | (simp; omega))) | ((with_reducible refine Below.trans ?_ (Below.mono hb3 ?_)); rotate_left; focus (first | omega | (simp; done) | (simp; omega))))), by omega⟩
      case measure => simp [intOf]; omega
    · go_wp2_with fail
      go_ret
      have hk2 : k' = ms.length := by omega
      subst hk2
      refine ⟨a', cap', ms', rfl, ?_, hm', hb⟩
      rw [HL.out, List.take_length] at hi'
      exact hi'
end Go.Proofs.Ytoflfamfhpijcaa
