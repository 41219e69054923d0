/-
  Walks: bindings that clash; the reference's AreBindings. No condition.
-/
import Derived.Test.YtkofpfcbjfkdpaaG7
import Derived.Test.YtkofpfcbjfkdpaaG2
import Derived.Test.YtkofpfcbjfkdpaaY6
import Derived.Deep.RegionLaw
set_option linter.unusedVariables false
set_option linter.unusedSimpArgs false
set_option maxRecDepth 100000
namespace Go.Proofs.Ytkofpfcbjfkdpaa
open Go.RowKit

/-- among these bindings there is one with this text and these scopes -/
def Clash (ds : List Bnd) (s : ByteArray) (x : List Int) : Prop := ∃ d ∈ ds, d.s = s ∧ d.x = x
open Classical in
noncomputable def clashB (ds : List Bnd) (s : ByteArray) (x : List Int) : Bool := decide (Clash ds s x)
theorem clashB_yes {ds : List Bnd} {s : ByteArray} {x : List Int} (h : Clash ds s x) : clashB ds s x = true := by simp [clashB, h]
theorem clashB_no {ds : List Bnd} {s : ByteArray} {x : List Int} (h : ¬ Clash ds s x) : clashB ds s x = false := by simp [clashB, h]
theorem noClash_nil (s : ByteArray) (x : List Int) : ¬ Clash [] s x := by rintro ⟨d, hd, _⟩; cases hd
theorem noClash_step {ds : List Bnd} {k : Nat} {d : Bnd} {s : ByteArray} {x : List Int} (h : ¬ Clash (ds.take k) s x) (hd : ds[k]? = some d) (hn : ¬ (d.s = s ∧ d.x = x)) : ¬ Clash (ds.take (k + 1)) s x := by
  rintro ⟨y, hy, h1⟩
  rw [take_snoc hd, List.mem_append] at hy
  rcases hy with hy | hy
  · exact h ⟨y, hy, h1⟩
  · simp at hy; subst hy; exact hn h1
theorem clash_of {ds : List Bnd} {k : Nat} {d : Bnd} {s : ByteArray} {x : List Int} (hd : ds[k]? = some d) (h1 : d.s = s) (h2 : d.x = x) : Clash ds s x := ⟨d, List.mem_of_getElem? hd, h1, h2⟩

theorem l3Clash_calls (ds : List Bnd) (a : Option Addr) (cap : Nat) (ms : List M) (s : ByteArray) (x : List Int) (k n : Int) (xa : Option Addr) (xc : Nat) (w : World) (hi : Bnd.IsL ds ms) (hin : (M.sl a cap 4 49 ms).In w) (hx : (M.sl xa xc 1 3 (intM x)).In w) :
    Calls Try.prog 105 #[.slice a ms.length cap, .agg #[.string s, .slice xa x.length xc, .int .i64 k, .int .i64 n]] w (Ret (.bool (clashB ds s x)) w) := by
  have hln := hi.length
  have hcapm := hin.len
  have HIN := Lib.hid hin; clear hin; have HI := Lib.hid hi; clear hi; have HLN := Lib.hid hln; clear hln; have HX := Lib.hid hx; clear hx
  go_enter Try.func105, Try.ntmps105
  go_wp2_with fail
  go_loopw [9] (fun i wr => ∃ j : Nat, j ≤ ms.length ∧ i = .int .i64 j ∧ ¬ Clash (ds.take j) s x ∧ (wr.cell? ⟨w.heap.size, 0, none⟩ = some (.string s) ∧ wr.cell? ⟨w.heap.size, 1, none⟩ = some (.slice xa x.length xc)) ∧ Below w.heap.size w wr ∧ w.heap.size + 1 ≤ wr.heap.size) (fun i _ => ms.length - (intOf i).toNat)
  case atStart => exact ⟨0, Nat.zero_le _, rfl, noClash_nil _ _, by simp [go_sem], by (repeat (first | with_reducible assumption | with_reducible exact Below.refl _ _ | with_reducible refine Below.drew ?_ | with_reducible refine belowDrewN ?_ _ | ((with_reducible refine Below.setCell ?_ ?_ _); rotate_left; focus (first | omega | (simp; done) | (simp; omega))) | ((with_reducible refine Below.alloc ?_ ?_ _); rotate_left; focus (first | omega | (simp; done) | (simp; omega))))), by simp⟩
  case round =>
    obtain ⟨j, hj, rfl, hno, ⟨q0, q1⟩, hb, hsz⟩ := hrel
    have p0 : w.heap.size < wr.heap.size := by omega
    by_cases hlt : j < ms.length
    · obtain ⟨b, off, s1, x1, k1, n1, xa1, xc1, rfl, hd, hx1, c0, c1, c2, c3⟩ := Bnd.elem (HIN.out.below hb) HI.out j hlt
      by_cases hs : s1 = s
      · by_cases hxx : x1 = x
        · have hy := clashB_yes (clash_of hd hs hxx)
          have hsx : eqL x1 x = true := (eqL_iff _ _).2 hxx
          have hss : (s1.toList == s.toList) = true := by rw [hs]; simp
          have HNO := Lib.hid hno; clear hno; have HD := Lib.hid hd; clear hd; have HX1 := Lib.hid hx1; clear hx1; have HY := Lib.hid hy; clear hy; have HS := Lib.hid hs; clear hs; have HXX := Lib.hid hxx; clear hxx
          go_wp2_with fail
          refine (l2SameInts_calls xa1 xc1 x1 xa xc x _ (HX1.out.below (by (repeat (first | with_reducible assumption | with_reducible exact Below.refl _ _ | with_reducible refine Below.drew ?_ | with_reducible refine belowDrewN ?_ _ | ((with_reducible refine Below.setCell ?_ ?_ _); rotate_left; focus (first | omega | (simp; done) | (simp; omega))) | ((with_reducible refine Below.alloc ?_ ?_ _); rotate_left; focus (first | omega | (simp; done) | (simp; omega))))))) (HX.out.below (by (repeat (first | with_reducible assumption | with_reducible exact Below.refl _ _ | with_reducible refine Below.drew ?_ | with_reducible refine belowDrewN ?_ _ | ((with_reducible refine Below.setCell ?_ ?_ _); rotate_left; focus (first | omega | (simp; done) | (simp; omega))) | ((with_reducible refine Below.alloc ?_ ?_ _); rotate_left; focus (first | omega | (simp; done) | (simp; omega)))))))).mono ?_
          rintro e w1 ⟨rfl, hb1⟩
          go_wp2_with fail
          go_ret
          exact ⟨ret_b HY.out.symm, by (repeat (first | with_reducible assumption | with_reducible exact Below.refl _ _ | with_reducible refine Below.drew ?_ | with_reducible refine belowDrewN ?_ _ | ((with_reducible refine Below.setCell ?_ ?_ _); rotate_left; focus (first | omega | (simp; done) | (simp; omega))) | ((with_reducible refine Below.alloc ?_ ?_ _); rotate_left; focus (first | omega | (simp; done) | (simp; omega))) | ((with_reducible refine Below.trans ?_ (Below.mono hb1 ?_)); rotate_left; focus (first | omega | (simp; done) | (simp; omega)))))⟩
        · have hno2 := noClash_step hno hd (fun h => hxx h.2)
          have hsx : eqL x1 x = false := (eqL_not _ _).2 hxx
          have hss : (s1.toList == s.toList) = true := by rw [hs]; simp
          have HNO := Lib.hid hno; clear hno; have HD := Lib.hid hd; clear hd; have HX1 := Lib.hid hx1; clear hx1; have HNO2 := Lib.hid hno2; clear hno2; have HS := Lib.hid hs; clear hs; have HXX := Lib.hid hxx; clear hxx
          go_wp2_with fail
          refine (l2SameInts_calls xa1 xc1 x1 xa xc x _ (HX1.out.below (by (repeat (first | with_reducible assumption | with_reducible exact Below.refl _ _ | with_reducible refine Below.drew ?_ | with_reducible refine belowDrewN ?_ _ | ((with_reducible refine Below.setCell ?_ ?_ _); rotate_left; focus (first | omega | (simp; done) | (simp; omega))) | ((with_reducible refine Below.alloc ?_ ?_ _); rotate_left; focus (first | omega | (simp; done) | (simp; omega))))))) (HX.out.below (by (repeat (first | with_reducible assumption | with_reducible exact Below.refl _ _ | with_reducible refine Below.drew ?_ | with_reducible refine belowDrewN ?_ _ | ((with_reducible refine Below.setCell ?_ ?_ _); rotate_left; focus (first | omega | (simp; done) | (simp; omega))) | ((with_reducible refine Below.alloc ?_ ?_ _); rotate_left; focus (first | omega | (simp; done) | (simp; omega)))))))).mono ?_
          rintro e w1 ⟨rfl, hb1⟩
          obtain ⟨hc1, hf1⟩ := bcell hb1; have hz1 := hb1.size; (try simp only [World.size_alloc, World.size_setCell, World.size_drew, sizeDrewN] at hz1 hc1 hf1)
          have q0' : w1.cell? ⟨w.heap.size, 0, none⟩ = some (.string s) := by simp (disch := omega) [hc1, q0, go_sem]
          have q1' : w1.cell? ⟨w.heap.size, 1, none⟩ = some (.slice xa x.length xc) := by simp (disch := omega) [hc1, q1, go_sem]
          go_wp2_with fail
          go_roundw
          case rel => exact ⟨j + 1, by omega, by go_num, HNO2.out, ⟨q0', q1'⟩, by (repeat (first | with_reducible assumption | with_reducible exact Below.refl _ _ | with_reducible refine Below.drew ?_ | with_reducible refine belowDrewN ?_ _ | ((with_reducible refine Below.setCell ?_ ?_ _); rotate_left; focus (first | omega | (simp; done) | (simp; omega))) | ((with_reducible refine Below.alloc ?_ ?_ _); rotate_left; focus (first | omega | (simp; done) | (simp; omega))) | ((with_reducible refine Below.trans ?_ (Below.mono hb1 ?_)); rotate_left; focus (first | omega | (simp; done) | (simp; omega))))), by omega⟩
          case measure => simp [intOf]; omega
      · have hno2 := noClash_step hno hd (fun h => hs h.1)
        have hss := ba_ne hs
        have HNO := Lib.hid hno; clear hno; have HD := Lib.hid hd; clear hd; have HX1 := Lib.hid hx1; clear hx1; have HNO2 := Lib.hid hno2; clear hno2; have HS := Lib.hid hs; clear hs
        go_wp2_with fail
        have q0' : (wr.alloc (.cells #[.string s1, .slice xa1 x1.length xc1, .int .i64 k1, .int .i64 n1] 49)).cell? ⟨w.heap.size, 0, none⟩ = some (.string s) := by simp (disch := omega) [q0, go_sem]
        have q1' : (wr.alloc (.cells #[.string s1, .slice xa1 x1.length xc1, .int .i64 k1, .int .i64 n1] 49)).cell? ⟨w.heap.size, 1, none⟩ = some (.slice xa x.length xc) := by simp (disch := omega) [q1, go_sem]
        go_roundw
        case rel => exact ⟨j + 1, by omega, by go_num, HNO2.out, ⟨q0', q1'⟩, by (repeat (first | with_reducible assumption | with_reducible exact Below.refl _ _ | with_reducible refine Below.drew ?_ | with_reducible refine belowDrewN ?_ _ | ((with_reducible refine Below.setCell ?_ ?_ _); rotate_left; focus (first | omega | (simp; done) | (simp; omega))) | ((with_reducible refine Below.alloc ?_ ?_ _); rotate_left; focus (first | omega | (simp; done) | (simp; omega))))), by simp; omega⟩
        case measure => simp [intOf]; omega
    · go_wp2_with fail
      go_ret
      have hj2 : j = ms.length := by omega
      subst hj2
      rw [HLN.out, List.take_length] at hno
      exact ⟨ret_b (clashB_no hno).symm, hb⟩
theorem l3Clash_of (ds : List Bnd) (a : Option Addr) (cap : Nat) (ms : List M) (nn : Nat) (hnn : ms.length = nn) (s : ByteArray) (x : List Int) (k n : Int) (xa : Option Addr) (xc : Nat) (w : World) (hi : Bnd.IsL ds ms) (hin : (M.sl a cap 4 49 ms).In w) (hx : (M.sl xa xc 1 3 (intM x)).In w) :
    Calls Try.prog 105 #[.slice a nn cap, .agg #[.string s, .slice xa x.length xc, .int .i64 k, .int .i64 n]] w (Ret (.bool (clashB ds s x)) w) := by
  subst hnn; exact l3Clash_calls ds a cap ms s x k n xa xc w hi hin hx
def Good (ds : List Bnd) : Prop := ∀ i d, ds[i]? = some d → bndOk d.s d.x d.k d.n = true ∧ ¬ Clash (ds.take i) d.s d.x
theorem Good_nil : Good [] := fun i d h => by simp at h
theorem Good_step {ds : List Bnd} {k : Nat} {d : Bnd} (h : Good (ds.take k)) (hd : ds[k]? = some d) (h1 : bndOk d.s d.x d.k d.n = true) (h2 : ¬ Clash (ds.take k) d.s d.x) : Good (ds.take (k + 1)) := by
  intro i e he
  have hk := (List.getElem?_eq_some_iff.1 hd).1
  have hi : i < k + 1 := by have := (List.getElem?_eq_some_iff.1 he).1; simp at this; omega
  have he' : ds[i]? = some e := by rw [List.getElem?_take_of_lt (by omega)] at he; exact he
  by_cases hik : i = k
  · subst hik
    rw [hd] at he'
    obtain rfl := Option.some.inj he'
    refine ⟨h1, ?_⟩
    rwa [List.take_take, Nat.min_eq_left (by omega)]
  · have := h i e (by rw [List.getElem?_take_of_lt (by omega)]; exact he')
    rw [List.take_take, Nat.min_eq_left (by omega)] at this
    refine ⟨this.1, ?_⟩
    rw [List.take_take, Nat.min_eq_left (by omega)]
    exact this.2
theorem Good_no1 {ds : List Bnd} {k : Nat} {d : Bnd} (hd : ds[k]? = some d) (h1 : bndOk d.s d.x d.k d.n = false) : ¬ Good ds := fun h => by have := (h k d hd).1; rw [h1] at this; cases this
theorem Good_no2 {ds : List Bnd} {k : Nat} {d : Bnd} (hd : ds[k]? = some d) (h2 : Clash (ds.take k) d.s d.x) : ¬ Good ds := fun h => (h k d hd).2 h2
open Classical in
noncomputable def areB (ds : List Bnd) : Bool := decide (ds.length ≤ 1000) && decide (Good ds)
theorem areB_no {ds : List Bnd} (h : ¬ Good ds) : areB ds = false := by simp [areB, h]
theorem areB_good {ds : List Bnd} (h : Good ds) : areB ds = decide (ds.length ≤ 1000) := by simp [areB, h]
theorem areB_iff {ds : List Bnd} : areB ds = true ↔ ds.length ≤ 1000 ∧ Good ds := by simp [areB]

theorem M.In.take {w : World} {a : Option Addr} {cap sz : Nat} {e : TypeId} {ms : List M} (h : (M.sl a cap sz e ms).In w) (k : Nat) (hk : k ≤ ms.length) (ha : a ≠ none) : (M.sl a cap sz e (ms.take k)).In w := by
  obtain ⟨⟨hh, hu⟩, hx⟩ := h
  have hu2 : ∀ x ∈ ms.take k, x.cells.length = sz := fun x hx => hu x (List.mem_of_mem_take hx)
  have hc : M.cellsL ms = M.cellsL (ms.take k) ++ M.cellsL (ms.drop k) := by rw [← M.cellsL_append, List.take_append_drop]
  refine ⟨⟨⟨M.cellsL_length hu2, hh.pos, by have := hh.le; simp; omega, hh.max, fun h => absurd h ha, fun ad had j u hj => hh.cell ad had j u ?_⟩, hu2⟩, ?_⟩
  · rw [hc, List.getElem?_append_left ((List.getElem?_eq_some_iff.1 hj).1)]; exact hj
  · exact M.InL_of fun x hx2 => M.InL_mem hx x (List.mem_of_mem_take hx2)
set_option maxHeartbeats 1000000 in
theorem sAreBindings_calls (ds : List Bnd) (a : Option Addr) (cap : Nat) (ms : List M) (w : World) (hwf : Bnd.wfL ds) (hi : Bnd.IsL ds ms) (hin : (M.sl a cap 4 49 ms).In w) :
    Calls Try.prog 32 #[.slice a ms.length cap] w (Ret (.bool (areB ds)) w) := by
  have hln := hi.length
  have hcapm := hin.len
  have HIN := Lib.hid hin; clear hin; have HI := Lib.hid hi; clear hi; have HLN := Lib.hid hln; clear hln; have HWF := Lib.hid hwf; clear hwf
  go_enter Try.func32, Try.ntmps32
  go_wp2_with fail
  go_loopw [7] (fun i wr => ∃ j : Nat, j ≤ ms.length ∧ i = .int .i64 j ∧ Good (ds.take j) ∧ Below w.heap.size w wr ∧ w.heap.size ≤ wr.heap.size) (fun i _ => ms.length - (intOf i).toNat)
  case atStart => exact ⟨0, Nat.zero_le _, rfl, Good_nil, Below.refl _ _, Nat.le_refl _⟩
  case round =>
    obtain ⟨j, hj, rfl, hno, hb, hsz⟩ := hrel
    by_cases hlt : j < ms.length
    · obtain ⟨b, off, s1, x1, k1, n1, xa1, xc1, rfl, hd, hx1, c0, c1, c2, c3⟩ := Bnd.elem (HIN.out.below hb) HI.out j hlt
      have hw1 := (Bnd.wfL_get HWF.out hd).1
      have hmt : (ms.take j).length = j := by simp; omega
      have htk := HIN.out.take j (by omega) (by simp)
      have hit := HI.out.take j
      have hjc : (j : Int) ≤ (cap : Int) := by omega
      have q0 : (wr.alloc (.cells #[.string s1, .slice xa1 x1.length xc1, .int .i64 k1, .int .i64 n1] 49)).cell? ⟨wr.heap.size, 0, none⟩ = some (.string s1) := by simp [go_sem]
      have q1 : (wr.alloc (.cells #[.string s1, .slice xa1 x1.length xc1, .int .i64 k1, .int .i64 n1] 49)).cell? ⟨wr.heap.size, 1, none⟩ = some (.slice xa1 x1.length xc1) := by simp [go_sem]
      have q2 : (wr.alloc (.cells #[.string s1, .slice xa1 x1.length xc1, .int .i64 k1, .int .i64 n1] 49)).cell? ⟨wr.heap.size, 2, none⟩ = some (.int .i64 k1) := by simp [go_sem]
      have q3 : (wr.alloc (.cells #[.string s1, .slice xa1 x1.length xc1, .int .i64 k1, .int .i64 n1] 49)).cell? ⟨wr.heap.size, 3, none⟩ = some (.int .i64 n1) := by simp [go_sem]
      have p0 : wr.heap.size < (wr.alloc (.cells #[.string s1, .slice xa1 x1.length xc1, .int .i64 k1, .int .i64 n1] 49)).heap.size := by simp
      cases hok : bndOk s1 x1 k1 n1 with
      | false =>
        have hbad := areB_no (Good_no1 hd hok)
        have HNO := Lib.hid hno; clear hno; have HD := Lib.hid hd; clear hd; have HX1 := Lib.hid hx1; clear hx1; have HW1 := Lib.hid hw1; clear hw1; have HTK := Lib.hid htk; clear htk; have HIT := Lib.hid hit; clear hit; have HBAD := Lib.hid hbad; clear hbad; have HMT := Lib.hid hmt; clear hmt
        go_wp2_with fail
        first | (go_region_law (first | (go_simp; go_at_call 104; refine (sIsBinding_calls s1 x1 k1 n1 xa1 xc1 _ HW1.out (HX1.out.below (by (repeat (first | with_reducible assumption | with_reducible exact Below.refl _ _ | with_reducible refine Below.drew ?_ | with_reducible refine belowDrewN ?_ _ | ((with_reducible refine Below.setCell ?_ ?_ _); rotate_left; focus (first | omega | (simp; done) | (simp; omega))) | ((with_reducible refine Below.alloc ?_ ?_ _); rotate_left; focus (first | omega | (simp; done) | (simp; omega)))))))).mono ?_; rintro e w1 ⟨rfl, hb1⟩; obtain ⟨hc1, hf1⟩ := bcell hb1))) | fail
        all_goals go_wp2_with fail
        all_goals go_ret
        all_goals exact ⟨ret_b HBAD.out.symm, by first | ((repeat (first | with_reducible assumption | with_reducible exact Below.refl _ _ | with_reducible refine Below.drew ?_ | with_reducible refine belowDrewN ?_ _ | ((with_reducible refine Below.setCell ?_ ?_ _); rotate_left; focus (first | omega | (simp; done) | (simp; omega))) | ((with_reducible refine Below.alloc ?_ ?_ _); rotate_left; focus (first | omega | (simp; done) | (simp; omega))) | ((with_reducible refine Below.trans ?_ (Below.mono hb ?_)); rotate_left; focus (first | omega | (simp; done) | (simp; omega))) | ((with_reducible refine Below.trans ?_ (Below.mono hb1 ?_)); rotate_left; focus (first | omega | (simp; done) | (simp; omega))))); done) | ((repeat (first | with_reducible assumption | with_reducible exact Below.refl _ _ | with_reducible refine Below.drew ?_ | with_reducible refine belowDrewN ?_ _ | ((with_reducible refine Below.setCell ?_ ?_ _); rotate_left; focus (first | omega | (simp; done) | (simp; omega))) | ((with_reducible refine Below.alloc ?_ ?_ _); rotate_left; focus (first | omega | (simp; done) | (simp; omega))) | ((with_reducible refine Below.trans ?_ (Below.mono hb ?_)); rotate_left; focus (first | omega | (simp; done) | (simp; omega))))); done)⟩
      | true =>
        by_cases hcl : Clash (ds.take j) s1 x1
        · have hcb := clashB_yes hcl
          have hbad := areB_no (Good_no2 hd hcl)
          have HNO := Lib.hid hno; clear hno; have HD := Lib.hid hd; clear hd; have HX1 := Lib.hid hx1; clear hx1; have HW1 := Lib.hid hw1; clear hw1; have HTK := Lib.hid htk; clear htk; have HIT := Lib.hid hit; clear hit; have HBAD := Lib.hid hbad; clear hbad; have HMT := Lib.hid hmt; clear hmt; have HCL := Lib.hid hcl; clear hcl
          go_wp2_with fail
          go_region_held3 (fun w' => (w'.cell? ⟨wr.heap.size, 0, none⟩ = some (.string s1) ∧ w'.cell? ⟨wr.heap.size, 1, none⟩ = some (.slice xa1 x1.length xc1) ∧ w'.cell? ⟨wr.heap.size, 2, none⟩ = some (.int .i64 k1) ∧ w'.cell? ⟨wr.heap.size, 3, none⟩ = some (.int .i64 n1)))
            (first | exact ⟨q0, q1, q2, q3⟩ | exact ⟨(hc1 _ _ p0).trans q0, (hc1 _ _ p0).trans q1, (hc1 _ _ p0).trans q2, (hc1 _ _ p0).trans q3⟩ | exact ⟨(hc2 _ _ p1).trans ((hc1 _ _ p0).trans q0), (hc2 _ _ p1).trans ((hc1 _ _ p0).trans q1), (hc2 _ _ p1).trans ((hc1 _ _ p0).trans q2), (hc2 _ _ p1).trans ((hc1 _ _ p0).trans q3)⟩)
            (first | (go_at_call 104; refine (sIsBinding_calls s1 x1 k1 n1 xa1 xc1 _ HW1.out (HX1.out.below (by (repeat (first | with_reducible assumption | with_reducible exact Below.refl _ _ | with_reducible refine Below.drew ?_ | with_reducible refine belowDrewN ?_ _ | ((with_reducible refine Below.setCell ?_ ?_ _); rotate_left; focus (first | omega | (simp; done) | (simp; omega))) | ((with_reducible refine Below.alloc ?_ ?_ _); rotate_left; focus (first | omega | (simp; done) | (simp; omega)))))))).mono ?_; rintro e w1 ⟨rfl, hb1⟩; obtain ⟨hc1, hf1⟩ := bcell hb1; have p1 : wr.heap.size < w1.heap.size := Nat.lt_of_lt_of_le p0 hb1.size) | (go_at_call 105; refine (l3Clash_of (ds.take j) _ cap (ms.take j) j HMT.out s1 x1 k1 n1 xa1 xc1 _ HIT.out (HTK.out.below (by (repeat (first | with_reducible assumption | with_reducible exact Below.refl _ _ | with_reducible refine Below.drew ?_ | with_reducible refine belowDrewN ?_ _ | ((with_reducible refine Below.setCell ?_ ?_ _); rotate_left; focus (first | omega | (simp; done) | (simp; omega))) | ((with_reducible refine Below.alloc ?_ ?_ _); rotate_left; focus (first | omega | (simp; done) | (simp; omega))) | ((with_reducible refine Below.trans ?_ (Below.mono hb ?_)); rotate_left; focus (first | omega | (simp; done) | (simp; omega))) | ((with_reducible refine Below.trans ?_ (Below.mono hb1 ?_)); rotate_left; focus (first | omega | (simp; done) | (simp; omega))))))) (HX1.out.below (by (repeat (first | with_reducible assumption | with_reducible exact Below.refl _ _ | with_reducible refine Below.drew ?_ | with_reducible refine belowDrewN ?_ _ | ((with_reducible refine Below.setCell ?_ ?_ _); rotate_left; focus (first | omega | (simp; done) | (simp; omega))) | ((with_reducible refine Below.alloc ?_ ?_ _); rotate_left; focus (first | omega | (simp; done) | (simp; omega))) | ((with_reducible refine Below.trans ?_ (Below.mono hb1 ?_)); rotate_left; focus (first | omega | (simp; done) | (simp; omega)))))))).mono ?_; rintro e w2 ⟨rfl, hb2⟩; obtain ⟨hc2, hf2⟩ := bcell hb2))
          go_wp2_with fail
          go_ret
          exact ⟨ret_b HBAD.out.symm, by (repeat (first | with_reducible assumption | with_reducible exact Below.refl _ _ | with_reducible refine Below.drew ?_ | with_reducible refine belowDrewN ?_ _ | ((with_reducible refine Below.setCell ?_ ?_ _); rotate_left; focus (first | omega | (simp; done) | (simp; omega))) | ((with_reducible refine Below.alloc ?_ ?_ _); rotate_left; focus (first | omega | (simp; done) | (simp; omega))) | ((with_reducible refine Below.trans ?_ (Below.mono hb ?_)); rotate_left; focus (first | omega | (simp; done) | (simp; omega))) | ((with_reducible refine Below.trans ?_ (Below.mono hb1 ?_)); rotate_left; focus (first | omega | (simp; done) | (simp; omega))) | ((with_reducible refine Below.trans ?_ (Below.mono hb2 ?_)); rotate_left; focus (first | omega | (simp; done) | (simp; omega)))))⟩
        · have hcb := clashB_no hcl
          have hno2 := Good_step hno hd hok hcl
          have HNO := Lib.hid hno; clear hno; have HD := Lib.hid hd; clear hd; have HX1 := Lib.hid hx1; clear hx1; have HW1 := Lib.hid hw1; clear hw1; have HTK := Lib.hid htk; clear htk; have HIT := Lib.hid hit; clear hit; have HNO2 := Lib.hid hno2; clear hno2; have HMT := Lib.hid hmt; clear hmt; have HCL := Lib.hid hcl; clear hcl
          go_wp2_with fail
          go_region_held3 (fun w' => (w'.cell? ⟨wr.heap.size, 0, none⟩ = some (.string s1) ∧ w'.cell? ⟨wr.heap.size, 1, none⟩ = some (.slice xa1 x1.length xc1) ∧ w'.cell? ⟨wr.heap.size, 2, none⟩ = some (.int .i64 k1) ∧ w'.cell? ⟨wr.heap.size, 3, none⟩ = some (.int .i64 n1)))
            (first | exact ⟨q0, q1, q2, q3⟩ | exact ⟨(hc1 _ _ p0).trans q0, (hc1 _ _ p0).trans q1, (hc1 _ _ p0).trans q2, (hc1 _ _ p0).trans q3⟩ | exact ⟨(hc2 _ _ p1).trans ((hc1 _ _ p0).trans q0), (hc2 _ _ p1).trans ((hc1 _ _ p0).trans q1), (hc2 _ _ p1).trans ((hc1 _ _ p0).trans q2), (hc2 _ _ p1).trans ((hc1 _ _ p0).trans q3)⟩)
            (first | (go_at_call 104; refine (sIsBinding_calls s1 x1 k1 n1 xa1 xc1 _ HW1.out (HX1.out.below (by (repeat (first | with_reducible assumption | with_reducible exact Below.refl _ _ | with_reducible refine Below.drew ?_ | with_reducible refine belowDrewN ?_ _ | ((with_reducible refine Below.setCell ?_ ?_ _); rotate_left; focus (first | omega | (simp; done) | (simp; omega))) | ((with_reducible refine Below.alloc ?_ ?_ _); rotate_left; focus (first | omega | (simp; done) | (simp; omega)))))))).mono ?_; rintro e w1 ⟨rfl, hb1⟩; obtain ⟨hc1, hf1⟩ := bcell hb1; have p1 : wr.heap.size < w1.heap.size := Nat.lt_of_lt_of_le p0 hb1.size) | (go_at_call 105; refine (l3Clash_of (ds.take j) _ cap (ms.take j) j HMT.out s1 x1 k1 n1 xa1 xc1 _ HIT.out (HTK.out.below (by (repeat (first | with_reducible assumption | with_reducible exact Below.refl _ _ | with_reducible refine Below.drew ?_ | with_reducible refine belowDrewN ?_ _ | ((with_reducible refine Below.setCell ?_ ?_ _); rotate_left; focus (first | omega | (simp; done) | (simp; omega))) | ((with_reducible refine Below.alloc ?_ ?_ _); rotate_left; focus (first | omega | (simp; done) | (simp; omega))) | ((with_reducible refine Below.trans ?_ (Below.mono hb ?_)); rotate_left; focus (first | omega | (simp; done) | (simp; omega))) | ((with_reducible refine Below.trans ?_ (Below.mono hb1 ?_)); rotate_left; focus (first | omega | (simp; done) | (simp; omega))))))) (HX1.out.below (by (repeat (first | with_reducible assumption | with_reducible exact Below.refl _ _ | with_reducible refine Below.drew ?_ | with_reducible refine belowDrewN ?_ _ | ((with_reducible refine Below.setCell ?_ ?_ _); rotate_left; focus (first | omega | (simp; done) | (simp; omega))) | ((with_reducible refine Below.alloc ?_ ?_ _); rotate_left; focus (first | omega | (simp; done) | (simp; omega))) | ((with_reducible refine Below.trans ?_ (Below.mono hb1 ?_)); rotate_left; focus (first | omega | (simp; done) | (simp; omega)))))))).mono ?_; rintro e w2 ⟨rfl, hb2⟩; obtain ⟨hc2, hf2⟩ := bcell hb2))
          have hz1 := hb1.size
          have hz2 := hb2.size
          simp only [World.size_drew] at hz1
          go_wp2_with fail
          go_roundw
          case rel => exact ⟨j + 1, by omega, by go_num, HNO2.out, by (repeat (first | with_reducible assumption | with_reducible exact Below.refl _ _ | with_reducible refine Below.drew ?_ | with_reducible refine belowDrewN ?_ _ | ((with_reducible refine Below.setCell ?_ ?_ _); rotate_left; focus (first | omega | (simp; done) | (simp; omega))) | ((with_reducible refine Below.alloc ?_ ?_ _); rotate_left; focus (first | omega | (simp; done) | (simp; omega))) | ((with_reducible refine Below.trans ?_ (Below.mono hb ?_)); rotate_left; focus (first | omega | (simp; done) | (simp; omega))) | ((with_reducible refine Below.trans ?_ (Below.mono hb1 ?_)); rotate_left; focus (first | omega | (simp; done) | (simp; omega))) | ((with_reducible refine Below.trans ?_ (Below.mono hb2 ?_)); rotate_left; focus (first | omega | (simp; done) | (simp; omega))))), by omega⟩
          case measure => simp [intOf]; omega
    · go_wp2_with fail
      go_ret
      have hj2 : j = ms.length := by omega
      subst hj2
      have hl := HLN.out
      rw [hl, List.take_length] at hno
      exact ⟨ret_b (by rw [areB_good hno, ← hl]; by_cases h1000 : ms.length ≤ 1000 <;> simp [h1000] <;> omega), hb⟩
end Go.Proofs.Ytkofpfcbjfkdpaa
