/-
  Walks: copies of bindings, isBound, within. No condition.
-/
import Derived.Test.YtkofpfcbjfkdpaaApp
import Derived.Test.YtkofpfcbjfkdpaaBR
import Derived.Test.YtkofpfcbjfkdpaaI1
set_option linter.unusedVariables false
set_option linter.unusedSimpArgs false
set_option maxRecDepth 100000
namespace Go.Proofs.Ytkofpfcbjfkdpaa
open Go.RowKit

theorem sWithin_eq (a : Option Addr) (cap : Nat) (l : List Int) (a' : Option Addr) (cap' : Nat) (r : List Int) (w : World) (h : (M.sl a cap 1 3 (intM l)).In w) (h' : (M.sl a' cap' 1 3 (intM r)).In w) :
    Calls Try.prog 179 #[.slice a l.length cap, .slice a' r.length cap'] w (RetEq (.bool (subB l r)) w) := by
  have hl := Ints.len h
  have hl' := Ints.len h'
  have H := Lib.hid h; clear h; have H' := Lib.hid h'; clear h'
  go_enter Try.func179, Try.ntmps179
  go_wp2_with fail
  go_loop [9] (fun i => ∃ k : Nat, k ≤ l.length ∧ i = .int .i64 k ∧ (∀ y ∈ l.take k, y ∈ r)) (fun i => l.length - (intOf i).toNat)
  case atStart => exact ⟨0, Nat.zero_le _, rfl, by simp⟩
  case round =>
    obtain ⟨k, hk, rfl, hpre⟩ := hrel
    by_cases hlt : k < l.length
    · obtain ⟨b, off, x, rfl, hx, hc⟩ := Ints.elem H.out k hlt
      cases hr : hasB r x with
      | true =>
        have hpre2 := sub_step hpre hx hr
        have HPRE := Lib.hid hpre; clear hpre; have HX := Lib.hid hx; clear hx; have HPRE2 := Lib.hid hpre2; clear hpre2
        go_wp2_with fail
        refine (sHasScope_calls a' cap' r x _ H'.out).mono ?_
        rintro e w1 ⟨rfl, rfl⟩
        go_wp2_with fail
        go_round
        case rel => exact ⟨k + 1, by omega, by go_num, HPRE2.out⟩
        case measure => simp [intOf]; omega
      | false =>
        have hn := subB_not hx hr
        have HPRE := Lib.hid hpre; clear hpre; have HX := Lib.hid hx; clear hx
        go_wp2_with fail
        refine (sHasScope_calls a' cap' r x _ H'.out).mono ?_
        rintro e w1 ⟨rfl, rfl⟩
        go_wp2_with fail
        go_ret
        exact ⟨ret_b hn.symm, rfl⟩
    · have hk2 : k = l.length := by omega
      subst hk2
      have hs : subB l r = true := (subB_iff l r).2 (by rwa [List.take_length] at hpre)
      have HPRE := Lib.hid hpre; clear hpre
      go_wp2_with fail
      go_ret
      exact ⟨ret_b (by first | exact hs.symm | rfl), rfl⟩
theorem iWithin_eq (a : Option Addr) (cap : Nat) (l : List Int) (a' : Option Addr) (cap' : Nat) (r : List Int) (w : World) (h : (M.sl a cap 1 3 (intM l)).In w) (h' : (M.sl a' cap' 1 3 (intM r)).In w) :
    Calls Try.prog 159 #[.slice a l.length cap, .slice a' r.length cap'] w (RetEq (.bool (subB l r)) w) := by
  have hl := Ints.len h
  have hl' := Ints.len h'
  have H := Lib.hid h; clear h; have H' := Lib.hid h'; clear h'
  go_enter Try.func159, Try.ntmps159
  go_wp2_with fail
  go_loop [9] (fun i => ∃ k : Nat, k ≤ l.length ∧ i = .int .i64 k ∧ (∀ y ∈ l.take k, y ∈ r)) (fun i => l.length - (intOf i).toNat)
  case atStart => exact ⟨0, Nat.zero_le _, rfl, by simp⟩
  case round =>
    obtain ⟨k, hk, rfl, hpre⟩ := hrel
    by_cases hlt : k < l.length
    · obtain ⟨b, off, x, rfl, hx, hc⟩ := Ints.elem H.out k hlt
      cases hr : hasB r x with
      | true =>
        have hpre2 := sub_step hpre hx hr
        have HPRE := Lib.hid hpre; clear hpre; have HX := Lib.hid hx; clear hx; have HPRE2 := Lib.hid hpre2; clear hpre2
        go_wp2_with fail
        refine (iHasScope_calls a' cap' r x _ H'.out).mono ?_
        rintro e w1 ⟨rfl, rfl⟩
        go_wp2_with fail
        go_round
        case rel => exact ⟨k + 1, by omega, by go_num, HPRE2.out⟩
        case measure => simp [intOf]; omega
      | false =>
        have hn := subB_not hx hr
        have HPRE := Lib.hid hpre; clear hpre; have HX := Lib.hid hx; clear hx
        go_wp2_with fail
        refine (iHasScope_calls a' cap' r x _ H'.out).mono ?_
        rintro e w1 ⟨rfl, rfl⟩
        go_wp2_with fail
        go_ret
        exact ⟨ret_b hn.symm, rfl⟩
    · have hk2 : k = l.length := by omega
      subst hk2
      have hs : subB l r = true := (subB_iff l r).2 (by rwa [List.take_length] at hpre)
      have HPRE := Lib.hid hpre; clear hpre
      go_wp2_with fail
      go_ret
      exact ⟨ret_b (by first | exact hs.symm | rfl), rfl⟩
theorem copyBinding_calls (s : ByteArray) (x : List Int) (k n : Int) (xa : Option Addr) (xc : Nat) (w : World) (hB : x.length ≤ 4000000) (hx : (M.sl xa xc 1 3 (intM x)).In w) :
    Calls Try.prog 110 #[.agg #[.string s, .slice xa x.length xc, .int .i64 k, .int .i64 n]] w (RetBnd (.mk s x k n) w) := by
  have hxl := Ints.len hx
  have HX := Lib.hid hx; clear hx
  go_enter Try.func110, Try.ntmps110
  go_wp2_with fail
  refine (icopyInts_calls xa xc x _ (HX.out.below (by (repeat (first | with_reducible assumption | with_reducible exact Below.refl _ _ | with_reducible refine Below.drew ?_ | with_reducible refine belowDrewN ?_ _ | ((with_reducible refine Below.setCell ?_ ?_ _); rotate_left; focus (first | omega | (simp; done) | (simp; omega))) | ((with_reducible refine Below.alloc ?_ ?_ _); rotate_left; focus (first | omega | (simp; done) | (simp; omega))))))) (by omega)).mono ?_
  rintro e w2 ⟨a2, cap2, rfl, hm2, hb2⟩
  obtain ⟨hc2, hf2⟩ := bcell hb2; have hz2 := hb2.size; (try simp only [World.size_alloc, World.size_setCell, World.size_drew, sizeDrewN] at hz2 hc2 hf2); have hp2_0 : w.heap.size < w2.heap.size := (by omega); have hp2_1 : w.heap.size + 1 < w2.heap.size := (by omega)
  have HM2 := Lib.hid hm2; clear hm2
  go_wp2_with fail
  refine bodyPost_ret (v := .agg #[.string s, .slice a2 x.length cap2, .int .i64 k, .int .i64 n]) (by simp [results, Try.results110, go_sem, hc2]) rfl ?_
  refine ⟨a2, cap2, rfl, ?_, ?_⟩
  · (exact M.Mine.mono (M.Mine.keep HM2.out (fun b hb1 hb2 => by (try simp at hb1); simp (disch := (first | omega | (simp; omega))) only [heapSet, heapNew, heapDrew, heapDrewN])) (by first | omega | (simp; done) | (simp; omega)))
  · (repeat (first | with_reducible assumption | with_reducible exact Below.refl _ _ | with_reducible refine Below.drew ?_ | with_reducible refine belowDrewN ?_ _ | ((with_reducible refine Below.setCell ?_ ?_ _); rotate_left; focus (first | omega | (simp; done) | (simp; omega))) | ((with_reducible refine Below.alloc ?_ ?_ _); rotate_left; focus (first | omega | (simp; done) | (simp; omega))) | ((with_reducible refine Below.trans ?_ (Below.mono hb2 ?_)); rotate_left; focus (first | omega | (simp; done) | (simp; omega)))))
theorem Bnd.x_le {ds : List Bnd} {k : Nat} {d : Bnd} (h : ds[k]? = some d) {m : Nat} (hB : Bnd.wtX ds ≤ m) : d.x.length ≤ m := by
  have := Bnd.wt_le h; obtain ⟨s, x, kk, n⟩ := d; simp only [Bnd.wt, Bnd.x_mk] at *; omega
theorem copyBindings_calls (ds : List Bnd) (a : Option Addr) (cap : Nat) (ms : List M) (w : World) (hB : ds.length + Bnd.wtX ds ≤ 4000000) (hi : Bnd.IsL ds ms) (hin : (M.sl a cap 4 49 ms).In w) :
    Calls Try.prog 109 #[.slice a ms.length cap] w (RetBnds 49 ds w) := by
  have hl := hi.length
  have hcap := hin.len
  have HIN := Lib.hid hin; clear hin; have HI := Lib.hid hi; clear hi; have HL := Lib.hid hl; clear hl
  go_enter Try.func109, Try.ntmps109
  go_wp2_with fail
  go_loopw [3, 8] (fun t i wr => ∃ (k : Nat) (a' : Option Addr) (cap' : Nat) (ms' : List M), k ≤ ms.length ∧ i = .int .i64 k ∧ t = .slice a' ms'.length cap' ∧ ms'.length = k ∧ Bnd.IsL (ds.take k) ms' ∧ (M.sl a' cap' 4 49 ms').Mine wr w.heap.size ∧ Below w.heap.size w wr ∧ w.heap.size ≤ wr.heap.size) (fun _ i _ => ms.length - (intOf i).toNat)
  case atStart => exact ⟨0, none, 0, [], Nat.zero_le _, rfl, rfl, rfl, by simp [Bnd.IsL], M.Mine.nil _ _ _ _ (by decide), Below.refl _ _, Nat.le_refl _⟩
  case round =>
    obtain ⟨k', a', cap', ms', hk, rfl, rfl, hk', hi', hm', hb, hsz⟩ := hrel
    by_cases hlt : k' < ms.length
    · obtain ⟨b, off, s1, x1, k1, n1, xa1, xc1, rfl, hd, hx1, c0, c1, c2, c3⟩ := Bnd.elem (HIN.out.below hb) HI.out k' hlt
      have hle : x1.length ≤ 4000000 := Bnd.x_le hd (by omega)
      have HD := Lib.hid hd; clear hd; have HX1 := Lib.hid hx1; clear hx1; have HK' := Lib.hid hk'; clear hk'; have HI' := Lib.hid hi'; clear hi'; have HM' := Lib.hid hm'; clear hm'
      go_wp2_with fail
      refine (copyBinding_calls s1 x1 k1 n1 xa1 xc1 _ hle (HX1.out.below (by (repeat (first | with_reducible assumption | with_reducible exact Below.refl _ _ | with_reducible refine Below.drew ?_ | with_reducible refine belowDrewN ?_ _ | ((with_reducible refine Below.setCell ?_ ?_ _); rotate_left; focus (first | omega | (simp; done) | (simp; omega))) | ((with_reducible refine Below.alloc ?_ ?_ _); rotate_left; focus (first | omega | (simp; done) | (simp; omega)))))))).mono ?_
      rintro e w1 ⟨xa2, xc2, rfl, hm2, hb2⟩
      obtain ⟨hc2, hf2⟩ := bcell hb2; have hz2 := hb2.size; (try simp only [World.size_alloc, World.size_setCell, World.size_drew, sizeDrewN] at hz2 hc2 hf2)
      simp only [Bnd.s_mk, Bnd.x_mk, Bnd.k_mk, Bnd.n_mk] at hm2 ⊢
      go_wp2_with (at_builtin; refine wpList_push (wr := wr) rfl _ _ 39 rfl 49 _ 4 56 Try.underlying39 infoBnd rfl (by decide) w.heap.size a' cap' ms' rfl HM'.out hsz ?below _ (bndM s1 xa2 xc2 x1 k1 n1) ?cells rfl _ (bndM_mine hm2 s1 k1 n1) ?lo rfl ?max ?bytes ?_)
      case below => (repeat (first | with_reducible assumption | with_reducible exact Below.refl _ _ | with_reducible refine Below.drew ?_ | with_reducible refine belowDrewN ?_ _ | ((with_reducible refine Below.setCell ?_ ?_ _); rotate_left; focus (first | omega | (simp; done) | (simp; omega))) | ((with_reducible refine Below.alloc ?_ ?_ _); rotate_left; focus (first | omega | (simp; done) | (simp; omega))) | ((with_reducible refine Below.trans ?_ (Below.mono hb2 ?_)); rotate_left; focus (first | omega | (simp; done) | (simp; omega)))))
      case cells => exact bndM_cells _ _ _ _ _ _
      case lo => simp
      case max => have := HK'.out; unfold maxLen; omega
      case bytes => have := HK'.out; have := HL.out; omega
      intro a3 cap3 w3 hm3 hb3 hz3 hfr3
      have hfin : Bnd.IsL (ds.take (k' + 1)) (ms' ++ [bndM s1 xa2 xc2 x1 k1 n1]) := by
        rw [take_snoc HD.out]; exact HI'.out.snoc ⟨_, _, rfl⟩
      have hk3 := HK'.out
      have HM3 := Lib.hid hm3; clear hm3; have HFIN := Lib.hid hfin; clear hfin; have HFR3 := Lib.hid hfr3; clear hfr3; have HK3 := Lib.hid hk3; clear hk3
      go_wp2_with fail
      go_roundw
      case rel => exact ⟨k' + 1, a3, cap3, _, by omega, by go_num, by simp, by simp [HK3.out], HFIN.out, HM3.out, by (repeat (first | with_reducible assumption | with_reducible exact Below.refl _ _ | with_reducible refine Below.drew ?_ | with_reducible refine belowDrewN ?_ _ | ((with_reducible refine Below.setCell ?_ ?_ _); rotate_left; focus (first | omega | (simp; done) | (simp; omega))) | ((with_reducible refine Below.alloc ?_ ?_ _); rotate_left; focus (first | omega | (simp; done) | (simp; omega))) | ((with_reducible refine Below.trans ?_ (Below.mono hb2 ?_)); rotate_left; focus (first | omega | (simp; done) | (simp; omega))) | ((with_reducible refine Below.trans ?_ (Below.mono hb3 ?_)); rotate_left; focus (first | omega | (simp; done) | (simp; omega))))), by omega⟩
      case measure => simp [intOf]; omega
    · go_wp2_with fail
      go_ret
      have hk2 : k' = ms.length := by omega
      subst hk2
      refine ⟨a', cap', ms', rfl, ?_, hm', hb⟩
      rw [HL.out, List.take_length] at hi'
      exact hi'
set_option maxHeartbeats 2000000 in
theorem l3Copy_calls (ds : List Bnd) (a : Option Addr) (cap : Nat) (ms : List M) (w : World) (hB : ds.length + Bnd.wtX ds ≤ 4000000) (hi : Bnd.IsL ds ms) (hin : (M.sl a cap 4 49 ms).In w) :
    Calls Try.prog 132 #[.slice a ms.length cap] w (RetBnds 49 ds w) := by
  have hl := hi.length
  have hcap := hin.len
  have HIN := Lib.hid hin; clear hin; have HI := Lib.hid hi; clear hi; have HL := Lib.hid hl; clear hl
  go_enter Try.func132, Try.ntmps132
  go_wp2_with fail
  go_loopw [3, 9] (fun t i wr => ∃ (k : Nat) (a' : Option Addr) (cap' : Nat) (ms' : List M), k ≤ ms.length ∧ i = .int .i64 k ∧ t = .slice a' ms'.length cap' ∧ ms'.length = k ∧ Bnd.IsL (ds.take k) ms' ∧ (M.sl a' cap' 4 49 ms').Mine wr w.heap.size ∧ Below w.heap.size w wr ∧ w.heap.size ≤ wr.heap.size) (fun _ i _ => ms.length - (intOf i).toNat)
  case atStart => exact ⟨0, _, 0, [], Nat.zero_le _, rfl, rfl, rfl, by simp [Bnd.IsL], M.Mine.new rfl (Nat.le_refl _) rfl (by decide) (by simp) (by simp [maxLen]) ⟨trivial, by simp [M.blocksL]⟩, by (repeat (first | with_reducible assumption | with_reducible exact Below.refl _ _ | with_reducible refine Below.drew ?_ | with_reducible refine belowDrewN ?_ _ | ((with_reducible refine Below.setCell ?_ ?_ _); rotate_left; focus (first | omega | (simp; done) | (simp; omega))) | ((with_reducible refine Below.alloc ?_ ?_ _); rotate_left; focus (first | omega | (simp; done) | (simp; omega))))), by simp⟩
  case round =>
    obtain ⟨k', a', cap', ms', hk, rfl, rfl, hk', hi', hm', hb, hsz⟩ := hrel
    by_cases hlt : k' < ms.length
    · obtain ⟨b, off, s1, x1, k1, n1, xa1, xc1, rfl, hd, hx1, c0, c1, c2, c3⟩ := Bnd.elem (HIN.out.below hb) HI.out k' hlt
      have hle : x1.length ≤ 4000000 := Bnd.x_le hd (by omega)
      have HD := Lib.hid hd; clear hd; have HX1 := Lib.hid hx1; clear hx1; have HK' := Lib.hid hk'; clear hk'; have HI' := Lib.hid hi'; clear hi'; have HM' := Lib.hid hm'; clear hm'
      have hs0 := BBox.new s1 (.slice xa1 x1.length xc1) k1 n1 wr
      go_wp2_with fail
      go_region_held3 (fun w' => w'.cell? ⟨wr.heap.size, 0, none⟩ = some (.string s1) ∧ w'.cell? ⟨wr.heap.size, 1, none⟩ = some (.slice xa1 x1.length xc1) ∧ w'.cell? ⟨wr.heap.size, 2, none⟩ = some (.int .i64 k1) ∧ w'.cell? ⟨wr.heap.size, 3, none⟩ = some (.int .i64 n1))
        (first | (with_reducible exact ⟨hs0.c0, hs0.c1, hs0.c2, hs0.c3⟩) | (with_reducible exact ⟨hs7.c0, hs7.c1, hs7.c2, hs7.c3⟩) | (with_reducible exact ⟨cellNew hs7.c0, cellNew hs7.c1, cellNew hs7.c2, cellNew hs7.c3⟩) | (with_reducible exact ⟨hs3.c0, hs3.c1, hs3.c2, hs3.c3⟩) | (simp only [World.cell?_drew]; first | (with_reducible exact ⟨hs0.c0, hs0.c1, hs0.c2, hs0.c3⟩) | (with_reducible exact ⟨hs7.c0, hs7.c1, hs7.c2, hs7.c3⟩) | (with_reducible exact ⟨cellNew hs7.c0, cellNew hs7.c1, cellNew hs7.c2, cellNew hs7.c3⟩)))
        (first
          | (go_at_call 182; refine (sl2Ints_calls xa1 xc1 x1 _ (HX1.out.below (by (repeat (first | with_reducible assumption | with_reducible exact Below.refl _ _ | with_reducible refine Below.drew ?_ | with_reducible refine belowDrewN ?_ _ | ((with_reducible refine Below.setCell ?_ ?_ _); rotate_left; focus (first | omega | (simp; done) | (simp; omega))) | ((with_reducible refine Below.alloc ?_ ?_ _); rotate_left; focus (first | omega | (simp; done) | (simp; omega))))))) (by omega)).mono ?_; rintro e w1 ⟨xa2, xc2, rfl, hm2, hb2⟩; have hs7 : BBox wr.heap.size s1 (.slice xa1 x1.length xc1) k1 n1 w1 := hs0.of (hb2.block _ (by simp)); obtain ⟨hc2, hf2⟩ := bcell hb2; have hz2 := hb2.size; (try simp only [World.size_alloc, World.size_setCell, World.size_drew, sizeDrewN] at hz2 hc2 hf2))
          | (refine step_push (wr := wr) rfl _ _ 39 rfl 49 _ 4 56 Try.underlying39 infoBnd rfl (by decide) w.heap.size a' cap' ms' rfl HM'.out hsz (by (repeat (first | with_reducible assumption | with_reducible exact Below.refl _ _ | with_reducible refine Below.drew ?_ | with_reducible refine belowDrewN ?_ _ | ((with_reducible refine Below.setCell ?_ ?_ _); rotate_left; focus (first | omega | (simp; done) | (simp; omega))) | ((with_reducible refine Below.alloc ?_ ?_ _); rotate_left; focus (first | omega | (simp; done) | (simp; omega))) | ((with_reducible refine Below.trans ?_ (Below.mono hb2 ?_)); rotate_left; focus (first | omega | (simp; done) | (simp; omega)))))) _ (bndM s1 xa2 xc2 x1 k1 n1) (bndM_cells _ _ _ _ _ _) rfl _ (bndM_mine hm2 s1 k1 n1) (by simp) rfl (by have := HK'.out; unfold maxLen; omega) (by have := HK'.out; have := HL.out; omega) ?_; intro a3 cap3 w3 hm3 hb3 hz3 hfr3; have hs3 : BBox wr.heap.size s1 (.slice xa1 x1.length xc1) k1 n1 w3 := hs7.of (hfr3 _ (by omega) (fun hn => by have := (Mine.addr_lo HM'.out _ hn).2; omega))))
      have hfin : Bnd.IsL (ds.take (k' + 1)) (ms' ++ [bndM s1 xa2 xc2 x1 k1 n1]) := by
        rw [take_snoc HD.out]; exact HI'.out.snoc ⟨_, _, rfl⟩
      have hk3 := HK'.out
      have HM3 := Lib.hid hm3; clear hm3; have HFIN := Lib.hid hfin; clear hfin; have HFR3 := Lib.hid hfr3; clear hfr3; have HK3 := Lib.hid hk3; clear hk3; have HM2 := Lib.hid hm2; clear hm2
      go_wp2_with fail
      go_roundw
      case rel => exact ⟨k' + 1, a3, cap3, _, by omega, by go_num, by simp, by simp [HK3.out], HFIN.out, HM3.out, by (repeat (first | with_reducible assumption | with_reducible exact Below.refl _ _ | with_reducible refine Below.drew ?_ | with_reducible refine belowDrewN ?_ _ | ((with_reducible refine Below.setCell ?_ ?_ _); rotate_left; focus (first | omega | (simp; done) | (simp; omega))) | ((with_reducible refine Below.alloc ?_ ?_ _); rotate_left; focus (first | omega | (simp; done) | (simp; omega))) | ((with_reducible refine Below.trans ?_ (Below.mono hb2 ?_)); rotate_left; focus (first | omega | (simp; done) | (simp; omega))) | ((with_reducible refine Below.trans ?_ (Below.mono hb3 ?_)); rotate_left; focus (first | omega | (simp; done) | (simp; omega))))), by omega⟩
      case measure => simp [intOf]; omega
    · go_wp2_with fail
      go_ret
      have hk2 : k' = ms.length := by omega
      subst hk2
      refine ⟨a', cap', ms', rfl, ?_, hm', hb⟩
      rw [HL.out, List.take_length] at hi'
      exact hi'
theorem isBound_calls (ds : List Bnd) (a : Option Addr) (cap : Nat) (ms : List M) (s : ByteArray) (x : List Int) (xa : Option Addr) (xc : Nat) (w : World) (hi : Bnd.IsL ds ms) (hin : (M.sl a cap 4 49 ms).In w) (hx : (M.sl xa xc 1 3 (intM x)).In w) :
    Calls Try.prog 108 #[.slice a ms.length cap, .string s, .slice xa x.length xc] w (Ret (.bool (clashB ds s x)) w) := by
  have hln := hi.length
  have hcapm := hin.len
  have HIN := Lib.hid hin; clear hin; have HI := Lib.hid hi; clear hi; have HLN := Lib.hid hln; clear hln; have HX := Lib.hid hx; clear hx
  go_enter Try.func108, Try.ntmps108
  go_wp2_with fail
  go_loopw [11] (fun i wr => ∃ j : Nat, j ≤ ms.length ∧ i = .int .i64 j ∧ ¬ Clash (ds.take j) s x ∧ Below w.heap.size w wr ∧ w.heap.size ≤ wr.heap.size) (fun i _ => ms.length - (intOf i).toNat)
  case atStart => exact ⟨0, Nat.zero_le _, rfl, noClash_nil _ _, by (repeat (first | with_reducible assumption | with_reducible exact Below.refl _ _ | with_reducible refine Below.drew ?_ | with_reducible refine belowDrewN ?_ _ | ((with_reducible refine Below.setCell ?_ ?_ _); rotate_left; focus (first | omega | (simp; done) | (simp; omega))) | ((with_reducible refine Below.alloc ?_ ?_ _); rotate_left; focus (first | omega | (simp; done) | (simp; omega))))), by simp⟩
  case round =>
    obtain ⟨j, hj, rfl, hno, hb, hsz⟩ := hrel
    by_cases hlt : j < ms.length
    · obtain ⟨b, off, s1, x1, k1, n1, xa1, xc1, rfl, hd, hx1, c0, c1, c2, c3⟩ := Bnd.elem (HIN.out.below hb) HI.out j hlt
      by_cases hs : s1 = s
      · by_cases hxx : x1 = x
        · have hy := clashB_yes (clash_of hd hs hxx)
          have hsx : eqL x1 x = true := (eqL_iff _ _).2 hxx
          have hss : (s1.toList == s.toList) = true := by rw [hs]; simp
          have HNO := Lib.hid hno; clear hno; have HD := Lib.hid hd; clear hd; have HX1 := Lib.hid hx1; clear hx1; have HY := Lib.hid hy; clear hy; have HS := Lib.hid hs; clear hs; have HXX := Lib.hid hxx; clear hxx
          go_wp2_with fail
          refine (sameInts_calls xa1 xc1 x1 xa xc x _ (HX1.out.below (by (repeat (first | with_reducible assumption | with_reducible exact Below.refl _ _ | with_reducible refine Below.drew ?_ | with_reducible refine belowDrewN ?_ _ | ((with_reducible refine Below.setCell ?_ ?_ _); rotate_left; focus (first | omega | (simp; done) | (simp; omega))) | ((with_reducible refine Below.alloc ?_ ?_ _); rotate_left; focus (first | omega | (simp; done) | (simp; omega))))))) (HX.out.below (by (repeat (first | with_reducible assumption | with_reducible exact Below.refl _ _ | with_reducible refine Below.drew ?_ | with_reducible refine belowDrewN ?_ _ | ((with_reducible refine Below.setCell ?_ ?_ _); rotate_left; focus (first | omega | (simp; done) | (simp; omega))) | ((with_reducible refine Below.alloc ?_ ?_ _); rotate_left; focus (first | omega | (simp; done) | (simp; omega)))))))).mono ?_
          rintro e w1 ⟨rfl, hb1⟩
          go_wp2_with fail
          go_ret
          exact ⟨ret_b HY.out.symm, by (repeat (first | with_reducible assumption | with_reducible exact Below.refl _ _ | with_reducible refine Below.drew ?_ | with_reducible refine belowDrewN ?_ _ | ((with_reducible refine Below.setCell ?_ ?_ _); rotate_left; focus (first | omega | (simp; done) | (simp; omega))) | ((with_reducible refine Below.alloc ?_ ?_ _); rotate_left; focus (first | omega | (simp; done) | (simp; omega))) | ((with_reducible refine Below.trans ?_ (Below.mono hb1 ?_)); rotate_left; focus (first | omega | (simp; done) | (simp; omega)))))⟩
        · have hno2 := noClash_step hno hd (fun h => hxx h.2)
          have hsx : eqL x1 x = false := (eqL_not _ _).2 hxx
          have hss : (s1.toList == s.toList) = true := by rw [hs]; simp
          have HNO := Lib.hid hno; clear hno; have HD := Lib.hid hd; clear hd; have HX1 := Lib.hid hx1; clear hx1; have HNO2 := Lib.hid hno2; clear hno2; have HS := Lib.hid hs; clear hs; have HXX := Lib.hid hxx; clear hxx
          go_wp2_with fail
          refine (sameInts_calls xa1 xc1 x1 xa xc x _ (HX1.out.below (by (repeat (first | with_reducible assumption | with_reducible exact Below.refl _ _ | with_reducible refine Below.drew ?_ | with_reducible refine belowDrewN ?_ _ | ((with_reducible refine Below.setCell ?_ ?_ _); rotate_left; focus (first | omega | (simp; done) | (simp; omega))) | ((with_reducible refine Below.alloc ?_ ?_ _); rotate_left; focus (first | omega | (simp; done) | (simp; omega))))))) (HX.out.below (by (repeat (first | with_reducible assumption | with_reducible exact Below.refl _ _ | with_reducible refine Below.drew ?_ | with_reducible refine belowDrewN ?_ _ | ((with_reducible refine Below.setCell ?_ ?_ _); rotate_left; focus (first | omega | (simp; done) | (simp; omega))) | ((with_reducible refine Below.alloc ?_ ?_ _); rotate_left; focus (first | omega | (simp; done) | (simp; omega)))))))).mono ?_
          rintro e w1 ⟨rfl, hb1⟩
          obtain ⟨hc1, hf1⟩ := bcell hb1; have hz1 := hb1.size; (try simp only [World.size_alloc, World.size_setCell, World.size_drew, sizeDrewN] at hz1 hc1 hf1)
          go_wp2_with fail
          go_roundw
          case rel => exact ⟨j + 1, by omega, by go_num, HNO2.out, by (repeat (first | with_reducible assumption | with_reducible exact Below.refl _ _ | with_reducible refine Below.drew ?_ | with_reducible refine belowDrewN ?_ _ | ((with_reducible refine Below.setCell ?_ ?_ _); rotate_left; focus (first | omega | (simp; done) | (simp; omega))) | ((with_reducible refine Below.alloc ?_ ?_ _); rotate_left; focus (first | omega | (simp; done) | (simp; omega))) | ((with_reducible refine Below.trans ?_ (Below.mono hb1 ?_)); rotate_left; focus (first | omega | (simp; done) | (simp; omega))))), by omega⟩
          case measure => simp [intOf]; omega
      · have hno2 := noClash_step hno hd (fun h => hs h.1)
        have hss := ba_ne hs
        have HNO := Lib.hid hno; clear hno; have HD := Lib.hid hd; clear hd; have HX1 := Lib.hid hx1; clear hx1; have HNO2 := Lib.hid hno2; clear hno2; have HS := Lib.hid hs; clear hs
        go_wp2_with fail
        go_roundw
        case rel => exact ⟨j + 1, by omega, by go_num, HNO2.out, by (repeat (first | with_reducible assumption | with_reducible exact Below.refl _ _ | with_reducible refine Below.drew ?_ | with_reducible refine belowDrewN ?_ _ | ((with_reducible refine Below.setCell ?_ ?_ _); rotate_left; focus (first | omega | (simp; done) | (simp; omega))) | ((with_reducible refine Below.alloc ?_ ?_ _); rotate_left; focus (first | omega | (simp; done) | (simp; omega))))), by simp; omega⟩
        case measure => simp [intOf]; omega
    · go_wp2_with fail
      go_ret
      have hj2 : j = ms.length := by omega
      subst hj2
      rw [HLN.out, List.take_length] at hno
      exact ⟨ret_b (clashB_no hno).symm, hb⟩
end Go.Proofs.Ytkofpfcbjfkdpaa
