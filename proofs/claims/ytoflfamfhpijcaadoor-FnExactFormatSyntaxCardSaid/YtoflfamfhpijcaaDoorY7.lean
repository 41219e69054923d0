/-
  Walks: all nodes of a piece of syntax, its depth, few nodes. No condition.
-/
import Derived.Test.YtoflfamfhpijcaaDoorSyn
import Derived.Test.YtoflfamfhpijcaaDoorN4
set_option linter.unusedVariables false
set_option linter.unusedSimpArgs false
set_option maxRecDepth 100000
namespace Go.Proofs.YtoflfamfhpijcaaDoor
open Go.RowKit

def scB (k : Int) (x : List Int) : Bool := ssB x && (decide (x.length = 0) || decide (k = 1))
mutual
def Syn.ok : Syn → Prop
  | .mk k n s x ds => nodeB k n s ds.length = true ∧ scB k x = true ∧ Syn.okL ds
def Syn.okL : List Syn → Prop
  | [] => True
  | d :: r => d.ok ∧ Syn.okL r
end
theorem Syn.okL_iff {ds : List Syn} : Syn.okL ds ↔ ∀ d ∈ ds, d.ok := by
  induction ds with
  | nil => simp [Syn.okL]
  | cons d r ih => simp [Syn.okL, ih]
theorem Syn.ok_mk {k n : Int} {s : ByteArray} {x : List Int} {ds : List Syn} : (Syn.mk k n s x ds).ok ↔ nodeB k n s ds.length = true ∧ scB k x = true ∧ ∀ d ∈ ds, d.ok := by rw [← Syn.okL_iff]; rfl
open Classical in
noncomputable def Syn.okB (d : Syn) : Bool := decide d.ok
theorem Syn.okB_true {d : Syn} : d.okB = true ↔ d.ok := by simp [Syn.okB]
theorem Syn.okB_false {d : Syn} : d.okB = false ↔ ¬ d.ok := by simp [Syn.okB]
theorem syn_ok_take {ds : List Syn} {k : Nat} {d : Syn} (h : ∀ x ∈ ds.take k, x.ok) (hd : ds[k]? = some d) (hk : d.ok) : ∀ x ∈ ds.take (k + 1), x.ok := by
  rw [take_snoc hd]
  intro x hx
  rcases List.mem_append.1 hx with hx | hx
  · exact h x hx
  · simp at hx; subst hx; exact hk

def sDOS (ds : List Syn) : Prop := ∀ (k n : Int) (s : ByteArray) (x : List Int) (xa : Option Addr) (xc : Nat) (a : Option Addr) (cap : Nat) (ms : List M) (w : World), Syn.depthL ds ≤ 1000000000 → Syn.IsL 69 ds ms → (M.sl a cap 5 69 ms).In w →
    Calls Tryd.prog 118 #[.agg #[.int .i64 k, .int .i64 n, .string s, .slice xa x.length xc, .slice a ms.length cap]] w (Ret (.int .i64 ((Syn.depthL ds + 1 : Nat) : Int)) w)
theorem l2Depth_calls : ∀ ds, sDOS ds := by
  refine Syn.inductL fun ds ih => ?_
  intro k n s x xa xc a cap ms w hB hi hin
  have hln := hi.length
  have hcapm := hin.len
  have IH := Lib.hid ih; clear ih; have HIN := Lib.hid hin; clear hin; have HI := Lib.hid hi; clear hi; have HLN := Lib.hid hln; clear hln
  go_enter Tryd.func118, Tryd.ntmps118
  go_wp2
  go_loopw [3, 9] (fun t i wr => ∃ (k g : Nat), k ≤ ms.length ∧ i = .int .i64 k ∧ t = .int .i64 (g : Int) ∧ g = Syn.depthL (ds.take k) ∧ g ≤ 1000000000 ∧ Below w.heap.size w wr ∧ w.heap.size ≤ wr.heap.size) (fun _ i _ => ms.length - (intOf i).toNat)
  case atStart => exact ⟨0, 0, Nat.zero_le _, rfl, rfl, by simp [Syn.depthL], by omega, (Below.refl _ _).alloc (Nat.le_refl _) _, by simp⟩
  case round =>
    obtain ⟨k', g, hk, rfl, rfl, hg, hgB, hb, hsz⟩ := hrel
    by_cases hlt : k' < ms.length
    · obtain ⟨b, off, k1, n1, s1, x1, ds1, xa1, xc1, a1, cap1, ms1, rfl, hd, hi1, hx1, hin1, c0, c1, c2, c3, c4⟩ := Syn.elem (HIN.out.below hb) HI.out k' hlt
      have ht := Syn.depthL_take hd
      have hle := Syn.depthL_get hd
      simp only [Syn.depth] at hle ht
      rw [← hg] at ht
      have HI1 := Lib.hid hi1; clear hi1; have HIN1 := Lib.hid hin1; clear hin1; have HT := Lib.hid ht; clear ht; have HD := Lib.hid hd; clear hd; have HG := Lib.hid hg; clear hg; have HX1 := Lib.hid hx1; clear hx1
      go_wp2_with fail
      refine (IH.out k1 n1 s1 x1 ds1 (List.mem_of_getElem? HD.out) k1 n1 s1 x1 xa1 xc1 a1 cap1 ms1 _ (by omega) HI1.out (HIN1.out.below ((Below.refl _ _).alloc (Nat.le_refl _) _))).mono ?_
      rintro e w1 ⟨rfl, hb1⟩
      generalize hD_ : Syn.depthL ds1 = D at *
      have HD_ := Lib.hid hD_; clear hD_
      go_wp2_with fail
      have e : (if (g : Int) < (D : Int) + 1 then (D : Int) + 1 else (g : Int)) = ((max g (D + 1) : Nat) : Int) := by split <;> omega
      go_roundw
      case rel => exact ⟨k' + 1, max g (D + 1), by omega, by go_num, by rw [e], by rw [HT.out], by omega, by (repeat (first | with_reducible assumption | with_reducible exact Below.refl _ _ | with_reducible refine Below.drew ?_ | with_reducible refine belowDrewN ?_ _ | ((with_reducible refine Below.setCell ?_ ?_ _); rotate_left; focus (first | omega | (simp; done) | (simp; omega))) | ((with_reducible refine Below.alloc ?_ ?_ _); rotate_left; focus (first | omega | (simp; done) | (simp; omega))) | ((with_reducible refine Below.trans ?_ (Below.mono hb1 ?_)); rotate_left; focus (first | omega | (simp; done) | (simp; omega))))), by have := hb1.size; simp at this; omega⟩
      case measure => simp [intOf]; omega
    · go_wp2
      go_ret
      have hk2 : k' = ms.length := by omega
      subst hk2
      refine ⟨?_, hb⟩
      rw [hg, HLN.out, List.take_length]; rfl
def FwSs (ds : List Syn) : Prop := ∀ (k n : Int) (s : ByteArray) (x : List Int) (xa : Option Addr) (xc : Nat) (a : Option Addr) (cap : Nat) (ms : List M) (pb : Nat) (L : Int) (w0 w : World), Syn.countL ds ≤ 1000000000 → Syn.IsL 69 ds ms → (M.sl a cap 5 69 ms).In w0 →
    Below w0.heap.size w0 w → w0.heap.size ≤ pb → 0 ≤ L → L ≤ 1000000000 → w.cell? ⟨pb, 0, none⟩ = some (.int .i64 L) → w.frozen? ⟨pb, 0, none⟩ = false →
    Calls Tryd.prog 117 #[.agg #[.int .i64 k, .int .i64 n, .string s, .slice xa x.length xc, .slice a ms.length cap], .pointer (some ⟨pb, 0, none⟩)] w (RetFew L (1 + Syn.countL ds) pb w)
theorem l2Few_calls : ∀ ds, FwSs ds := by
  refine Syn.inductL fun ds ih => ?_
  intro k n s x xa xc a cap ms pb L w0 w hB hi hin hb0 hpb hL0 hL9 hp hpf
  have hl := hi.length
  have hcap := hin.len
  have hpw := World.block_lt_of_cell? w _ hp
  simp only at hpw
  have IH := Lib.hid ih; clear ih; have HIN := Lib.hid hin; clear hin; have HI := Lib.hid hi; clear hi; have HL := Lib.hid hl; clear hl
  go_enter Tryd.func117, Tryd.ntmps117
  go_wp2_with fail
  go_loopw [5] (fun i wr => ∃ (j : Nat), j ≤ ms.length ∧ i = .int .i64 j ∧ (wr.cell? ⟨pb, 0, none⟩ = some (.int .i64 (few L (1 + Syn.countL (ds.take j)))) ∧ wr.frozen? ⟨pb, 0, none⟩ = false) ∧
     wr.cell? ⟨w.heap.size, 4, none⟩ = some (.slice a ms.length cap) ∧ OnlyIn pb (pb + 1) w wr ∧ w.heap.size + 1 ≤ wr.heap.size) (fun i _ => ms.length - (intOf i).toNat)
  case atStart =>
    have hne : pb ≠ w.heap.size := by omega
    refine ⟨0, Nat.zero_le _, rfl, ?_, ?_, ?_, ?_⟩
    · rw [List.take_zero, show 1 + Syn.countL [] = 1 from rfl, ← few_one hL0]
      simp (disch := (first | omega | (simp; omega))) [go_sem, hp, hpf]
    · have hs' : (w.setCell ⟨pb, 0, none⟩ (.int .i64 (L - 1))).heap.size = w.heap.size := by simp
      rw [← hs', World.cell?_alloc_new]; rfl
    · exact ((OnlyIn.refl pb (pb + 1) w).set ⟨pb, 0, none⟩ _ (Nat.le_refl _) (Nat.lt_succ_self _)).new _
    · simp
  case round =>
    obtain ⟨j, hj, rfl, ⟨q, qf⟩, c3b, ho, hsz⟩ := hrel
    have hbz := ho.low hb0 hpb
    by_cases hlt : j < ms.length
    · by_cases hneg : few L (1 + Syn.countL (ds.take j)) < 0
      · have hlo := few_lo L (1 + Syn.countL (ds.take j))
        have hall : few L (1 + Syn.countL ds) = few L (1 + Syn.countL (ds.take j)) := by
          have h1 := few_more hneg hL0 (Syn.countL (ds.drop j))
          rw [Nat.add_assoc, ← Syn.countL_append, List.take_append_drop] at h1
          omega
        rw [← hall] at q hneg hlo
        have HO := Lib.hid ho; clear ho; have HBZ := Lib.hid hbz; clear hbz; have HALL := Lib.hid hall; clear hall
        go_wp2_with fail
        go_ret
        exact ⟨rfl, q, qf, HO.out⟩
      · have hpos : 0 ≤ few L (1 + Syn.countL (ds.take j)) := by omega
        have hhi := few_hi L (1 + Syn.countL (ds.take j)) hL0
        obtain ⟨b, off, k1, n1, s1, x1, ds1, xa1, xc1, a1, cap1, ms1, rfl, hd, hi1, hx1, hin1, c0, c1, c2, c3, c4⟩ := Syn.elem HIN.out HI.out j hlt
        have hbl := World.block_lt_of_cell? w0 _ c0
        simp only at hbl
        have e0 := (hbz.cell (p := ⟨b, _, none⟩) hbl).trans c0
        have e1 := (hbz.cell (p := ⟨b, _, none⟩) hbl).trans c1
        have e2 := (hbz.cell (p := ⟨b, _, none⟩) hbl).trans c2
        have e3 := (hbz.cell (p := ⟨b, _, none⟩) hbl).trans c3
        have e4 := (hbz.cell (p := ⟨b, _, none⟩) hbl).trans c4
        clear c0 c1 c2 c3 c4
        obtain ⟨ht, hle⟩ := Syn.countL_le ds j _ hd
        have hmem := List.mem_of_getElem? hd
        have hadd := few_add (c := 1 + Syn.countL ds1) hpos
        simp only [Syn.count] at hle ht
        rw [show 1 + Syn.countL (ds.take j) + (1 + Syn.countL ds1) = 1 + Syn.countL (ds.take (j + 1)) by rw [ht]; omega] at hadd
        generalize hF : few L (1 + Syn.countL (ds.take j)) = F at *
        have HD := Lib.hid hd; clear hd; have HI1 := Lib.hid hi1; clear hi1; have HIN1 := Lib.hid hin1; clear hin1; have HMEM := Lib.hid hmem; clear hmem; have HT := Lib.hid ht; clear ht; have HF := Lib.hid hF; clear hF; have HB0 := Lib.hid hb0; clear hb0; have HBZ := Lib.hid hbz; clear hbz; have HO := Lib.hid ho; clear ho; have HX1 := Lib.hid hx1; clear hx1
        go_wp2_with fail
        refine (IH.out k1 n1 s1 x1 ds1 HMEM.out k1 n1 s1 x1 xa1 xc1 a1 cap1 ms1 pb F w0 _ (by omega) HI1.out HIN1.out HBZ.out hpb hpos (by omega) q qf).mono ?_
        rintro e w1 ⟨rfl, q', qf', ho1⟩
        obtain ⟨hc1, hf1⟩ := ocell ho1
        have hz1 := ho1.size
        have c3c : w1.cell? ⟨w.heap.size, 4, none⟩ = some (.slice (some ⟨b, off, none⟩) ms.length cap) := by rw [hc1 _ _ (by omega) (by omega)]; exact c3b
        have hof := HO.out.trans ho1
        rw [hadd] at q'
        have HOF := Lib.hid hof; clear hof; have HO1 := Lib.hid ho1; clear ho1
        go_wp2_with fail
        go_roundw
        case rel => exact ⟨j + 1, by omega, by go_num, ⟨q', qf'⟩, c3c, HOF.out, by omega⟩
        case measure => simp [intOf]; omega
    · have hk2 : j = ms.length := by omega
      subst hk2
      have hlo := few_lo L (1 + Syn.countL (ds.take ms.length))
      have hhi := few_hi L (1 + Syn.countL (ds.take ms.length)) hL0
      have hd2 : ds.take ms.length = ds := by rw [HL.out, List.take_length]
      rw [hd2] at q hlo hhi
      have HO := Lib.hid ho; clear ho; have HBZ := Lib.hid hbz; clear hbz; have HD2 := Lib.hid hd2; clear hd2
      go_wp2_with fail
      go_ret
      exact ⟨rfl, q, qf, HO.out⟩
def NdSs (ds : List Syn) : Prop := ∀ (k n : Int) (s : ByteArray) (x : List Int) (xa : Option Addr) (xc : Nat) (a : Option Addr) (cap : Nat) (ms : List M) (w : World), (Syn.mk k n s x ds).wf → Syn.IsL 69 ds ms → (M.sl xa xc 1 3 (intM x)).In w → (M.sl a cap 5 69 ms).In w →
    Calls Tryd.prog 119 #[.agg #[.int .i64 k, .int .i64 n, .string s, .slice xa x.length xc, .slice a ms.length cap]] w (Ret (.bool (Syn.mk k n s x ds).okB) w)
set_option maxHeartbeats 1000000 in
theorem l2Nodes_calls : ∀ ds, NdSs ds := by
  refine Syn.inductL fun ds ih => ?_
  intro k n s x xa xc a cap ms w hwf hi hx hin
  have hl := hi.length
  have hcap := hin.len
  have hxl := Ints.len hx
  have hs : s.size ≤ 9223372036854775807 := by have := hwf.2.2.1; omega
  have hwl := hwf.2.2.2.2
  clear hwf
  have IH := Lib.hid ih; clear ih; have HIN := Lib.hid hin; clear hin; have HI := Lib.hid hi; clear hi; have HL := Lib.hid hl; clear hl; have HWL := Lib.hid hwl; clear hwl; have HX := Lib.hid hx; clear hx
  go_enter Tryd.func119, Tryd.ntmps119
  go_wp2_with fail
  go_loopw [8] (fun i wr => ∃ (j : Nat), j ≤ ms.length ∧ i = .int .i64 j ∧ (∀ x ∈ ds.take j, x.ok) ∧ (wr.cell? ⟨w.heap.size, 0, none⟩ = some (.int .i64 k) ∧ wr.cell? ⟨w.heap.size, 1, none⟩ = some (.int .i64 n) ∧ wr.cell? ⟨w.heap.size, 2, none⟩ = some (.string s) ∧ wr.cell? ⟨w.heap.size, 3, none⟩ = some (.slice xa x.length xc) ∧ wr.cell? ⟨w.heap.size, 4, none⟩ = some (.slice a ms.length cap)) ∧ Below w.heap.size w wr ∧ w.heap.size + 1 ≤ wr.heap.size) (fun i _ => ms.length - (intOf i).toNat)
  case atStart => exact ⟨0, Nat.zero_le _, rfl, by simp, by simp [go_sem], by (repeat (first | with_reducible assumption | with_reducible exact Below.refl _ _ | with_reducible refine Below.drew ?_ | with_reducible refine belowDrewN ?_ _ | ((with_reducible refine Below.setCell ?_ ?_ _); rotate_left; focus (first | omega | (simp; done) | (simp; omega))) | ((with_reducible refine Below.alloc ?_ ?_ _); rotate_left; focus (first | omega | (simp; done) | (simp; omega))))), by simp⟩
  case round =>
    obtain ⟨j, hj, rfl, hpre, ⟨q0, q1, q2, q3, q4⟩, hb, hsz⟩ := hrel
    have p0 : w.heap.size < wr.heap.size := by omega
    by_cases hlt : j < ms.length
    · obtain ⟨b, off, k1, n1, s1, x1, ds1, xa1, xc1, a1, cap1, ms1, rfl, hd, hi1, hx1, hin1, c0, c1, c2, c3, c4⟩ := Syn.elem (HIN.out.below hb) HI.out j hlt
      have hw1 := Syn.wfL_get HWL.out hd
      have hmem := List.mem_of_getElem? hd
      by_cases hok : (Syn.mk k1 n1 s1 x1 ds1).ok
      · have hokb : (Syn.mk k1 n1 s1 x1 ds1).okB = true := Syn.okB_true.2 hok
        have hpre2 := syn_ok_take hpre hd hok
        have HD := Lib.hid hd; clear hd; have HI1 := Lib.hid hi1; clear hi1; have HIN1 := Lib.hid hin1; clear hin1; have HW1 := Lib.hid hw1; clear hw1; have HMEM := Lib.hid hmem; clear hmem; have HPRE := Lib.hid hpre; clear hpre; have HPRE2 := Lib.hid hpre2; clear hpre2; have HOK := Lib.hid hok; clear hok; have HX1 := Lib.hid hx1; clear hx1
        go_wp2_with fail
        refine (IH.out k1 n1 s1 x1 ds1 HMEM.out k1 n1 s1 x1 xa1 xc1 a1 cap1 ms1 _ HW1.out HI1.out (HX1.out.below (by (repeat (first | with_reducible assumption | with_reducible exact Below.refl _ _ | with_reducible refine Below.drew ?_ | with_reducible refine belowDrewN ?_ _ | ((with_reducible refine Below.setCell ?_ ?_ _); rotate_left; focus (first | omega | (simp; done) | (simp; omega))) | ((with_reducible refine Below.alloc ?_ ?_ _); rotate_left; focus (first | omega | (simp; done) | (simp; omega))))))) (HIN1.out.below (by (repeat (first | with_reducible assumption | with_reducible exact Below.refl _ _ | with_reducible refine Below.drew ?_ | with_reducible refine belowDrewN ?_ _ | ((with_reducible refine Below.setCell ?_ ?_ _); rotate_left; focus (first | omega | (simp; done) | (simp; omega))) | ((with_reducible refine Below.alloc ?_ ?_ _); rotate_left; focus (first | omega | (simp; done) | (simp; omega)))))))).mono ?_
        rintro e w1 ⟨rfl, hb1⟩
        obtain ⟨hc1, hf1⟩ := bcell hb1; have hz1 := hb1.size; (try simp only [World.size_alloc, World.size_setCell, World.size_drew, sizeDrewN] at hz1 hc1 hf1)
        have q0' : w1.cell? ⟨w.heap.size, 0, none⟩ = some (.int .i64 k) := by simp (disch := omega) [hc1, q0, go_sem]
        have q1' : w1.cell? ⟨w.heap.size, 1, none⟩ = some (.int .i64 n) := by simp (disch := omega) [hc1, q1, go_sem]
        have q2' : w1.cell? ⟨w.heap.size, 2, none⟩ = some (.string s) := by simp (disch := omega) [hc1, q2, go_sem]
        have q3' : w1.cell? ⟨w.heap.size, 3, none⟩ = some (.slice xa x.length xc) := by simp (disch := omega) [hc1, q3, go_sem]
        have q4' : w1.cell? ⟨w.heap.size, 4, none⟩ = some (.slice (some ⟨b, off, none⟩) ms.length cap) := by simp (disch := omega) [hc1, q4, go_sem]
        go_wp2_with fail
        go_roundw
        case rel => exact ⟨j + 1, by omega, by go_num, HPRE2.out, ⟨q0', q1', q2', q3', q4'⟩, by (repeat (first | with_reducible assumption | with_reducible exact Below.refl _ _ | with_reducible refine Below.drew ?_ | with_reducible refine belowDrewN ?_ _ | ((with_reducible refine Below.setCell ?_ ?_ _); rotate_left; focus (first | omega | (simp; done) | (simp; omega))) | ((with_reducible refine Below.alloc ?_ ?_ _); rotate_left; focus (first | omega | (simp; done) | (simp; omega))) | ((with_reducible refine Below.trans ?_ (Below.mono hb1 ?_)); rotate_left; focus (first | omega | (simp; done) | (simp; omega))))), by omega⟩
        case measure => simp [intOf]; omega
      · have hokb : (Syn.mk k1 n1 s1 x1 ds1).okB = false := Syn.okB_false.2 hok
        have hno : (Syn.mk k n s x ds).okB = false := Syn.okB_false.2 fun h => hok ((Syn.ok_mk.1 h).2.2 _ hmem)
        have HD := Lib.hid hd; clear hd; have HI1 := Lib.hid hi1; clear hi1; have HIN1 := Lib.hid hin1; clear hin1; have HW1 := Lib.hid hw1; clear hw1; have HMEM := Lib.hid hmem; clear hmem; have HPRE := Lib.hid hpre; clear hpre; have HOK := Lib.hid hok; clear hok; have HNO := Lib.hid hno; clear hno; have HX1 := Lib.hid hx1; clear hx1
        go_wp2_with fail
        refine (IH.out k1 n1 s1 x1 ds1 HMEM.out k1 n1 s1 x1 xa1 xc1 a1 cap1 ms1 _ HW1.out HI1.out (HX1.out.below (by (repeat (first | with_reducible assumption | with_reducible exact Below.refl _ _ | with_reducible refine Below.drew ?_ | with_reducible refine belowDrewN ?_ _ | ((with_reducible refine Below.setCell ?_ ?_ _); rotate_left; focus (first | omega | (simp; done) | (simp; omega))) | ((with_reducible refine Below.alloc ?_ ?_ _); rotate_left; focus (first | omega | (simp; done) | (simp; omega))))))) (HIN1.out.below (by (repeat (first | with_reducible assumption | with_reducible exact Below.refl _ _ | with_reducible refine Below.drew ?_ | with_reducible refine belowDrewN ?_ _ | ((with_reducible refine Below.setCell ?_ ?_ _); rotate_left; focus (first | omega | (simp; done) | (simp; omega))) | ((with_reducible refine Below.alloc ?_ ?_ _); rotate_left; focus (first | omega | (simp; done) | (simp; omega)))))))).mono ?_
        rintro e w1 ⟨rfl, hb1⟩
        obtain ⟨hc1, hf1⟩ := bcell hb1; have hz1 := hb1.size; (try simp only [World.size_alloc, World.size_setCell, World.size_drew, sizeDrewN] at hz1 hc1 hf1)
        go_wp2_with fail
        go_ret
        exact ⟨ret_b HNO.out.symm, by (repeat (first | with_reducible assumption | with_reducible exact Below.refl _ _ | with_reducible refine Below.drew ?_ | with_reducible refine belowDrewN ?_ _ | ((with_reducible refine Below.setCell ?_ ?_ _); rotate_left; focus (first | omega | (simp; done) | (simp; omega))) | ((with_reducible refine Below.alloc ?_ ?_ _); rotate_left; focus (first | omega | (simp; done) | (simp; omega))) | ((with_reducible refine Below.trans ?_ (Below.mono hb1 ?_)); rotate_left; focus (first | omega | (simp; done) | (simp; omega)))))⟩
    · have hk2 : j = ms.length := by omega
      subst hk2
      have hfin : (Syn.mk k n s x ds).okB = (nodeB k n s ms.length && scB k x) := by
        rw [HL.out, List.take_length] at hpre
        cases hq : nodeB k n s ms.length with
        | true =>
          cases hq2 : scB k x with
          | true => rw [Bool.and_self, Syn.okB_true, Syn.ok_mk, ← HL.out]; exact ⟨hq, hq2, hpre⟩
          | false => rw [Bool.and_false, Syn.okB_false, Syn.ok_mk, hq2]; simp
        | false => rw [Bool.false_and, Syn.okB_false, Syn.ok_mk, ← HL.out, hq]; simp
      clear hpre
      cases hnode : nodeB k n s ms.length with
      | false =>
        rw [hnode, Bool.false_and] at hfin
        have HFIN := Lib.hid hfin; clear hfin
        go_wp2_with fail
        refine (l1Node_calls k n s ms.length _ hs).mono ?_
        rintro e w1 ⟨rfl, rfl⟩
        go_wp2_with fail
        go_ret
        exact ⟨ret_b HFIN.out.symm, hb⟩
      | true =>
        rw [hnode, Bool.true_and] at hfin
        cases hss : ssB x with
        | false =>
          have hfin' : (Syn.mk k n s x ds).okB = false := by rw [hfin, scB, hss, Bool.false_and]
          clear hfin
          have HFIN' := Lib.hid hfin'; clear hfin'
          go_wp2_with fail
          refine (l1Node_calls k n s ms.length _ hs).mono ?_
          rintro e w1 ⟨rfl, rfl⟩
          go_wp2_with fail
          refine (sIsScopeSet_calls xa xc x _ (HX.out.below hb)).mono ?_
          rintro e w1 ⟨rfl, hb1⟩
          obtain ⟨hc1, hf1⟩ := bcell hb1; have hz1 := hb1.size; (try simp only [World.size_alloc, World.size_setCell, World.size_drew, sizeDrewN] at hz1 hc1 hf1)
          go_wp2_with fail
          go_ret
          exact ⟨ret_b HFIN'.out.symm, by (repeat (first | with_reducible assumption | with_reducible exact Below.refl _ _ | with_reducible refine Below.drew ?_ | with_reducible refine belowDrewN ?_ _ | ((with_reducible refine Below.setCell ?_ ?_ _); rotate_left; focus (first | omega | (simp; done) | (simp; omega))) | ((with_reducible refine Below.alloc ?_ ?_ _); rotate_left; focus (first | omega | (simp; done) | (simp; omega))) | ((with_reducible refine Below.trans ?_ (Below.mono hb1 ?_)); rotate_left; focus (first | omega | (simp; done) | (simp; omega)))))⟩
        | true =>
          have hfin' : (Syn.mk k n s x ds).okB = (decide (x.length = 0) || decide (k = 1)) := by rw [hfin, scB, hss, Bool.true_and]
          clear hfin
          by_cases hx0 : x.length = 0
          · have hx0' : ((x.length : Int) == 0) = true := by simp [hx0]
            have hfin2 : (Syn.mk k n s x ds).okB = true := by rw [hfin']; simp [hx0]
            have HFIN2 := Lib.hid hfin2; clear hfin2; have HFIN' := Lib.hid hfin'; clear hfin'; have HX0 := Lib.hid hx0; clear hx0
            go_wp2_with fail
            refine (l1Node_calls k n s ms.length _ hs).mono ?_
            rintro e w1 ⟨rfl, rfl⟩
            go_wp2_with fail
            refine (sIsScopeSet_calls xa xc x _ (HX.out.below hb)).mono ?_
            rintro e w1 ⟨rfl, hb1⟩
            obtain ⟨hc1, hf1⟩ := bcell hb1; have hz1 := hb1.size; (try simp only [World.size_alloc, World.size_setCell, World.size_drew, sizeDrewN] at hz1 hc1 hf1)
            have q3' : w1.cell? ⟨w.heap.size, 3, none⟩ = some (.slice xa x.length xc) := by simp (disch := omega) [hc1, q3, go_sem]
            go_wp2_with fail
            go_ret
            exact ⟨ret_b HFIN2.out.symm, by (repeat (first | with_reducible assumption | with_reducible exact Below.refl _ _ | with_reducible refine Below.drew ?_ | with_reducible refine belowDrewN ?_ _ | ((with_reducible refine Below.setCell ?_ ?_ _); rotate_left; focus (first | omega | (simp; done) | (simp; omega))) | ((with_reducible refine Below.alloc ?_ ?_ _); rotate_left; focus (first | omega | (simp; done) | (simp; omega))) | ((with_reducible refine Below.trans ?_ (Below.mono hb1 ?_)); rotate_left; focus (first | omega | (simp; done) | (simp; omega)))))⟩
          · have hx0' : ((x.length : Int) == 0) = false := by simp; intro h; exact hx0 (by simp [h])
            have hfin2 : (Syn.mk k n s x ds).okB = (k == 1) := by rw [hfin']; rw [show decide (x.length = 0) = false by simpa using hx0, Bool.false_or]; by_cases h : k = 1 <;> simp [h]
            have HFIN2 := Lib.hid hfin2; clear hfin2; have HFIN' := Lib.hid hfin'; clear hfin'; have HX0 := Lib.hid hx0; clear hx0
            go_wp2_with fail
            refine (l1Node_calls k n s ms.length _ hs).mono ?_
            rintro e w1 ⟨rfl, rfl⟩
            go_wp2_with fail
            refine (sIsScopeSet_calls xa xc x _ (HX.out.below hb)).mono ?_
            rintro e w1 ⟨rfl, hb1⟩
            obtain ⟨hc1, hf1⟩ := bcell hb1; have hz1 := hb1.size; (try simp only [World.size_alloc, World.size_setCell, World.size_drew, sizeDrewN] at hz1 hc1 hf1)
            have q3' : w1.cell? ⟨w.heap.size, 3, none⟩ = some (.slice xa x.length xc) := by simp (disch := omega) [hc1, q3, go_sem]
            have q0' : w1.cell? ⟨w.heap.size, 0, none⟩ = some (.int .i64 k) := by simp (disch := omega) [hc1, q0, go_sem]
            go_wp2_with fail
            go_ret
            exact ⟨ret_b HFIN2.out.symm, by (repeat (first | with_reducible assumption | with_reducible exact Below.refl _ _ | with_reducible refine Below.drew ?_ | with_reducible refine belowDrewN ?_ _ | ((with_reducible refine Below.setCell ?_ ?_ _); rotate_left; focus (first | omega | (simp; done) | (simp; omega))) | ((with_reducible refine Below.alloc ?_ ?_ _); rotate_left; focus (first | omega | (simp; done) | (simp; omega))) | ((with_reducible refine Below.trans ?_ (Below.mono hb1 ?_)); rotate_left; focus (first | omega | (simp; done) | (simp; omega)))))⟩
end Go.Proofs.YtoflfamfhpijcaaDoor
