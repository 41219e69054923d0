/-
  Texts set together by wip/tools/merge.py: Y7, Y8, Y9, MS, T2, Y6, Y10, ID1, ID3, S1, Q4, SC1, SC2, Far, Q9, Gnd, App, W7. No condition beyond those told with each.
-/
import Derived.Test.YtghbnehocggnnaaGc
/-
  Walks: all nodes of a piece of syntax, its depth, few nodes. No condition.
-/
set_option linter.unusedVariables false
set_option linter.unusedSimpArgs false
set_option maxRecDepth 100000
namespace Go.Proofs.Ytghbnehocggnnaa
open Go.RowKit

def scB (k : Int) (x : List Int) : Bool := ssB x && (decide (x.length = 0) || decide (k = 1))
mutual
def Syn.ok : Syn → Prop
  | .mk k n s x ds => nodeB k n s ds.length = true ∧ scB k x = true ∧ Syn.okL ds
def Syn.okL : List Syn → Prop
  | [] => True
  | d :: r => d.ok ∧ Syn.okL r
end
theorem Syn.okL_iff {ds : List Syn} : Syn.okL ds ↔ ∀ d ∈ ds, d.ok := by
  induction ds with
  | nil => simp [Syn.okL]
  | cons d r ih => simp [Syn.okL, ih]
theorem Syn.ok_mk {k n : Int} {s : ByteArray} {x : List Int} {ds : List Syn} : (Syn.mk k n s x ds).ok ↔ nodeB k n s ds.length = true ∧ scB k x = true ∧ ∀ d ∈ ds, d.ok := by rw [← Syn.okL_iff]; rfl
open Classical in
noncomputable def Syn.okB (d : Syn) : Bool := decide d.ok
theorem Syn.okB_true {d : Syn} : d.okB = true ↔ d.ok := by simp [Syn.okB]
theorem Syn.okB_false {d : Syn} : d.okB = false ↔ ¬ d.ok := by simp [Syn.okB]
theorem syn_ok_take {ds : List Syn} {k : Nat} {d : Syn} (h : ∀ x ∈ ds.take k, x.ok) (hd : ds[k]? = some d) (hk : d.ok) : ∀ x ∈ ds.take (k + 1), x.ok := by
  rw [take_snoc hd]
  intro x hx
  rcases List.mem_append.1 hx with hx | hx
  · exact h x hx
  · simp at hx; subst hx; exact hk

def sDOS (ds : List Syn) : Prop := ∀ (k n : Int) (s : ByteArray) (x : List Int) (xa : Option Addr) (xc : Nat) (a : Option Addr) (cap : Nat) (ms : List M) (w : World), Syn.depthL ds ≤ 1000000000 → Syn.IsL 27 ds ms → (M.sl a cap 5 27 ms).In w →
    Calls Try.prog 66 #[.agg #[.int .i64 k, .int .i64 n, .string s, .slice xa x.length xc, .slice a ms.length cap]] w (Ret (.int .i64 ((Syn.depthL ds + 1 : Nat) : Int)) w)
theorem l2Depth_calls : ∀ ds, sDOS ds := by
  refine Syn.inductL fun ds ih => ?_
  intro k n s x xa xc a cap ms w hB hi hin
  have hln := hi.length
  have hcapm := hin.len
  have IH := Lib.hid ih; clear ih; have HIN := Lib.hid hin; clear hin; have HI := Lib.hid hi; clear hi; have HLN := Lib.hid hln; clear hln
  go_enter Try.func66, Try.ntmps66
  go_wp2
  go_loopw [3, 9] (fun t i wr => ∃ (k g : Nat), k ≤ ms.length ∧ i = .int .i64 k ∧ t = .int .i64 (g : Int) ∧ g = Syn.depthL (ds.take k) ∧ g ≤ 1000000000 ∧ Below w.heap.size w wr ∧ w.heap.size ≤ wr.heap.size) (fun _ i _ => ms.length - (intOf i).toNat)
  case atStart => exact ⟨0, 0, Nat.zero_le _, rfl, rfl, by simp [Syn.depthL], by omega, (Below.refl _ _).alloc (Nat.le_refl _) _, by simp⟩
  case round =>
    obtain ⟨k', g, hk, rfl, rfl, hg, hgB, hb, hsz⟩ := hrel
    by_cases hlt : k' < ms.length
    · obtain ⟨b, off, k1, n1, s1, x1, ds1, xa1, xc1, a1, cap1, ms1, rfl, hd, hi1, hx1, hin1, c0, c1, c2, c3, c4⟩ := Syn.elem (HIN.out.below hb) HI.out k' hlt
      have ht := Syn.depthL_take hd
      have hle := Syn.depthL_get hd
      simp only [Syn.depth] at hle ht
      rw [← hg] at ht
      have HI1 := Lib.hid hi1; clear hi1; have HIN1 := Lib.hid hin1; clear hin1; have HT := Lib.hid ht; clear ht; have HD := Lib.hid hd; clear hd; have HG := Lib.hid hg; clear hg; have HX1 := Lib.hid hx1; clear hx1
      go_wp2_with fail
      refine (IH.out k1 n1 s1 x1 ds1 (List.mem_of_getElem? HD.out) k1 n1 s1 x1 xa1 xc1 a1 cap1 ms1 _ (by omega) HI1.out (HIN1.out.below ((Below.refl _ _).alloc (Nat.le_refl _) _))).mono ?_
      rintro e w1 ⟨rfl, hb1⟩
      generalize hD_ : Syn.depthL ds1 = D at *
      have HD_ := Lib.hid hD_; clear hD_
      go_wp2_with fail
      have e : (if (g : Int) < (D : Int) + 1 then (D : Int) + 1 else (g : Int)) = ((max g (D + 1) : Nat) : Int) := by split <;> omega
      go_roundw
      case rel => exact ⟨k' + 1, max g (D + 1), by omega, by go_num, by rw [e], by rw [HT.out], by omega, by (repeat (first | with_reducible assumption | with_reducible exact Below.refl _ _ | with_reducible refine Below.drew ?_ | with_reducible refine belowDrewN ?_ _ | ((with_reducible refine Below.setCell ?_ ?_ _); rotate_left; focus (first | omega | (simp; done) | (simp; omega))) | ((with_reducible refine Below.alloc ?_ ?_ _); rotate_left; focus (first | omega | (simp; done) | (simp; omega))) | ((with_reducible refine Below.trans ?_ (Below.mono hb1 ?_)); rotate_left; focus (first | omega | (simp; done) | (simp; omega))))), by have := hb1.size; simp at this; omega⟩
      case measure => simp [intOf]; omega
    · go_wp2
      go_ret
      have hk2 : k' = ms.length := by omega
      subst hk2
      refine ⟨?_, hb⟩
      rw [hg, HLN.out, List.take_length]; rfl
def FwSs (ds : List Syn) : Prop := ∀ (k n : Int) (s : ByteArray) (x : List Int) (xa : Option Addr) (xc : Nat) (a : Option Addr) (cap : Nat) (ms : List M) (pb : Nat) (L : Int) (w0 w : World), Syn.countL ds ≤ 1000000000 → Syn.IsL 27 ds ms → (M.sl a cap 5 27 ms).In w0 →
    Below w0.heap.size w0 w → w0.heap.size ≤ pb → 0 ≤ L → L ≤ 1000000000 → w.cell? ⟨pb, 0, none⟩ = some (.int .i64 L) → w.frozen? ⟨pb, 0, none⟩ = false →
    Calls Try.prog 65 #[.agg #[.int .i64 k, .int .i64 n, .string s, .slice xa x.length xc, .slice a ms.length cap], .pointer (some ⟨pb, 0, none⟩)] w (RetFew L (1 + Syn.countL ds) pb w)
theorem l2Few_calls : ∀ ds, FwSs ds := by
  refine Syn.inductL fun ds ih => ?_
  intro k n s x xa xc a cap ms pb L w0 w hB hi hin hb0 hpb hL0 hL9 hp hpf
  have hl := hi.length
  have hcap := hin.len
  have hpw := World.block_lt_of_cell? w _ hp
  simp only at hpw
  have IH := Lib.hid ih; clear ih; have HIN := Lib.hid hin; clear hin; have HI := Lib.hid hi; clear hi; have HL := Lib.hid hl; clear hl
  go_enter Try.func65, Try.ntmps65
  go_wp2_with fail
  go_loopw [5] (fun i wr => ∃ (j : Nat), j ≤ ms.length ∧ i = .int .i64 j ∧ (wr.cell? ⟨pb, 0, none⟩ = some (.int .i64 (few L (1 + Syn.countL (ds.take j)))) ∧ wr.frozen? ⟨pb, 0, none⟩ = false) ∧
     wr.cell? ⟨w.heap.size, 4, none⟩ = some (.slice a ms.length cap) ∧ OnlyIn pb (pb + 1) w wr ∧ w.heap.size + 1 ≤ wr.heap.size) (fun i _ => ms.length - (intOf i).toNat)
  case atStart =>
    have hne : pb ≠ w.heap.size := by omega
    refine ⟨0, Nat.zero_le _, rfl, ?_, ?_, ?_, ?_⟩
    · rw [List.take_zero, show 1 + Syn.countL [] = 1 from rfl, ← few_one hL0]
      simp (disch := (first | omega | (simp; omega))) [go_sem, hp, hpf]
    · have hs' : (w.setCell ⟨pb, 0, none⟩ (.int .i64 (L - 1))).heap.size = w.heap.size := by simp
      rw [← hs', World.cell?_alloc_new]; rfl
    · exact ((OnlyIn.refl pb (pb + 1) w).set ⟨pb, 0, none⟩ _ (Nat.le_refl _) (Nat.lt_succ_self _)).new _
    · simp
  case round =>
    obtain ⟨j, hj, rfl, ⟨q, qf⟩, c3b, ho, hsz⟩ := hrel
    have hbz := ho.low hb0 hpb
    by_cases hlt : j < ms.length
    · by_cases hneg : few L (1 + Syn.countL (ds.take j)) < 0
      · have hlo := few_lo L (1 + Syn.countL (ds.take j))
        have hall : few L (1 + Syn.countL ds) = few L (1 + Syn.countL (ds.take j)) := by
          have h1 := few_more hneg hL0 (Syn.countL (ds.drop j))
          rw [Nat.add_assoc, ← Syn.countL_append, List.take_append_drop] at h1
          omega
        rw [← hall] at q hneg hlo
        have HO := Lib.hid ho; clear ho; have HBZ := Lib.hid hbz; clear hbz; have HALL := Lib.hid hall; clear hall
        go_wp2_with fail
        go_ret
        exact ⟨rfl, q, qf, HO.out⟩
      · have hpos : 0 ≤ few L (1 + Syn.countL (ds.take j)) := by omega
        have hhi := few_hi L (1 + Syn.countL (ds.take j)) hL0
        obtain ⟨b, off, k1, n1, s1, x1, ds1, xa1, xc1, a1, cap1, ms1, rfl, hd, hi1, hx1, hin1, c0, c1, c2, c3, c4⟩ := Syn.elem HIN.out HI.out j hlt
        have hbl := World.block_lt_of_cell? w0 _ c0
        simp only at hbl
        have e0 := (hbz.cell (p := ⟨b, _, none⟩) hbl).trans c0
        have e1 := (hbz.cell (p := ⟨b, _, none⟩) hbl).trans c1
        have e2 := (hbz.cell (p := ⟨b, _, none⟩) hbl).trans c2
        have e3 := (hbz.cell (p := ⟨b, _, none⟩) hbl).trans c3
        have e4 := (hbz.cell (p := ⟨b, _, none⟩) hbl).trans c4
        clear c0 c1 c2 c3 c4
        obtain ⟨ht, hle⟩ := Syn.countL_le ds j _ hd
        have hmem := List.mem_of_getElem? hd
        have hadd := few_add (c := 1 + Syn.countL ds1) hpos
        simp only [Syn.count] at hle ht
        rw [show 1 + Syn.countL (ds.take j) + (1 + Syn.countL ds1) = 1 + Syn.countL (ds.take (j + 1)) by rw [ht]; omega] at hadd
        generalize hF : few L (1 + Syn.countL (ds.take j)) = F at *
        have HD := Lib.hid hd; clear hd; have HI1 := Lib.hid hi1; clear hi1; have HIN1 := Lib.hid hin1; clear hin1; have HMEM := Lib.hid hmem; clear hmem; have HT := Lib.hid ht; clear ht; have HF := Lib.hid hF; clear hF; have HB0 := Lib.hid hb0; clear hb0; have HBZ := Lib.hid hbz; clear hbz; have HO := Lib.hid ho; clear ho; have HX1 := Lib.hid hx1; clear hx1
        go_wp2_with fail
        refine (IH.out k1 n1 s1 x1 ds1 HMEM.out k1 n1 s1 x1 xa1 xc1 a1 cap1 ms1 pb F w0 _ (by omega) HI1.out HIN1.out HBZ.out hpb hpos (by omega) q qf).mono ?_
        rintro e w1 ⟨rfl, q', qf', ho1⟩
        obtain ⟨hc1, hf1⟩ := ocell ho1
        have hz1 := ho1.size
        have c3c : w1.cell? ⟨w.heap.size, 4, none⟩ = some (.slice (some ⟨b, off, none⟩) ms.length cap) := by rw [hc1 _ _ (by omega) (by omega)]; exact c3b
        have hof := HO.out.trans ho1
        rw [hadd] at q'
        have HOF := Lib.hid hof; clear hof; have HO1 := Lib.hid ho1; clear ho1
        go_wp2_with fail
        go_roundw
        case rel => exact ⟨j + 1, by omega, by go_num, ⟨q', qf'⟩, c3c, HOF.out, by omega⟩
        case measure => simp [intOf]; omega
    · have hk2 : j = ms.length := by omega
      subst hk2
      have hlo := few_lo L (1 + Syn.countL (ds.take ms.length))
      have hhi := few_hi L (1 + Syn.countL (ds.take ms.length)) hL0
      have hd2 : ds.take ms.length = ds := by rw [HL.out, List.take_length]
      rw [hd2] at q hlo hhi
      have HO := Lib.hid ho; clear ho; have HBZ := Lib.hid hbz; clear hbz; have HD2 := Lib.hid hd2; clear hd2
      go_wp2_with fail
      go_ret
      exact ⟨rfl, q, qf, HO.out⟩
def NdSs (ds : List Syn) : Prop := ∀ (k n : Int) (s : ByteArray) (x : List Int) (xa : Option Addr) (xc : Nat) (a : Option Addr) (cap : Nat) (ms : List M) (w : World), (Syn.mk k n s x ds).wf → Syn.IsL 27 ds ms → (M.sl xa xc 1 3 (intM x)).In w → (M.sl a cap 5 27 ms).In w →
    Calls Try.prog 67 #[.agg #[.int .i64 k, .int .i64 n, .string s, .slice xa x.length xc, .slice a ms.length cap]] w (Ret (.bool (Syn.mk k n s x ds).okB) w)
set_option maxHeartbeats 1000000 in
theorem l2Nodes_calls : ∀ ds, NdSs ds := by
  refine Syn.inductL fun ds ih => ?_
  intro k n s x xa xc a cap ms w hwf hi hx hin
  have hl := hi.length
  have hcap := hin.len
  have hxl := Ints.len hx
  have hs : s.size ≤ 9223372036854775807 := by have := hwf.2.2.1; omega
  have hwl := hwf.2.2.2.2
  clear hwf
  have IH := Lib.hid ih; clear ih; have HIN := Lib.hid hin; clear hin; have HI := Lib.hid hi; clear hi; have HL := Lib.hid hl; clear hl; have HWL := Lib.hid hwl; clear hwl; have HX := Lib.hid hx; clear hx
  go_enter Try.func67, Try.ntmps67
  go_wp2_with fail
  go_loopw [8] (fun i wr => ∃ (j : Nat), j ≤ ms.length ∧ i = .int .i64 j ∧ (∀ x ∈ ds.take j, x.ok) ∧ (wr.cell? ⟨w.heap.size, 0, none⟩ = some (.int .i64 k) ∧ wr.cell? ⟨w.heap.size, 1, none⟩ = some (.int .i64 n) ∧ wr.cell? ⟨w.heap.size, 2, none⟩ = some (.string s) ∧ wr.cell? ⟨w.heap.size, 3, none⟩ = some (.slice xa x.length xc) ∧ wr.cell? ⟨w.heap.size, 4, none⟩ = some (.slice a ms.length cap)) ∧ Below w.heap.size w wr ∧ w.heap.size + 1 ≤ wr.heap.size) (fun i _ => ms.length - (intOf i).toNat)
  case atStart => exact ⟨0, Nat.zero_le _, rfl, by simp, by simp [go_sem], by (repeat (first | with_reducible assumption | with_reducible exact Below.refl _ _ | with_reducible refine Below.drew ?_ | with_reducible refine belowDrewN ?_ _ | ((with_reducible refine Below.setCell ?_ ?_ _); rotate_left; focus (first | omega | (simp; done) | (simp; omega))) | ((with_reducible refine Below.alloc ?_ ?_ _); rotate_left; focus (first | omega | (simp; done) | (simp; omega))))), by simp⟩
  case round =>
    obtain ⟨j, hj, rfl, hpre, ⟨q0, q1, q2, q3, q4⟩, hb, hsz⟩ := hrel
    have p0 : w.heap.size < wr.heap.size := by omega
    by_cases hlt : j < ms.length
    · obtain ⟨b, off, k1, n1, s1, x1, ds1, xa1, xc1, a1, cap1, ms1, rfl, hd, hi1, hx1, hin1, c0, c1, c2, c3, c4⟩ := Syn.elem (HIN.out.below hb) HI.out j hlt
      have hw1 := Syn.wfL_get HWL.out hd
      have hmem := List.mem_of_getElem? hd
      by_cases hok : (Syn.mk k1 n1 s1 x1 ds1).ok
      · have hokb : (Syn.mk k1 n1 s1 x1 ds1).okB = true := Syn.okB_true.2 hok
        have hpre2 := syn_ok_take hpre hd hok
        have HD := Lib.hid hd; clear hd; have HI1 := Lib.hid hi1; clear hi1; have HIN1 := Lib.hid hin1; clear hin1; have HW1 := Lib.hid hw1; clear hw1; have HMEM := Lib.hid hmem; clear hmem; have HPRE := Lib.hid hpre; clear hpre; have HPRE2 := Lib.hid hpre2; clear hpre2; have HOK := Lib.hid hok; clear hok; have HX1 := Lib.hid hx1; clear hx1
        go_wp2_with fail
        refine (IH.out k1 n1 s1 x1 ds1 HMEM.out k1 n1 s1 x1 xa1 xc1 a1 cap1 ms1 _ HW1.out HI1.out (HX1.out.below (by (repeat (first | with_reducible assumption | with_reducible exact Below.refl _ _ | with_reducible refine Below.drew ?_ | with_reducible refine belowDrewN ?_ _ | ((with_reducible refine Below.setCell ?_ ?_ _); rotate_left; focus (first | omega | (simp; done) | (simp; omega))) | ((with_reducible refine Below.alloc ?_ ?_ _); rotate_left; focus (first | omega | (simp; done) | (simp; omega))))))) (HIN1.out.below (by (repeat (first | with_reducible assumption | with_reducible exact Below.refl _ _ | with_reducible refine Below.drew ?_ | with_reducible refine belowDrewN ?_ _ | ((with_reducible refine Below.setCell ?_ ?_ _); rotate_left; focus (first | omega | (simp; done) | (simp; omega))) | ((with_reducible refine Below.alloc ?_ ?_ _); rotate_left; focus (first | omega | (simp; done) | (simp; omega)))))))).mono ?_
        rintro e w1 ⟨rfl, hb1⟩
        obtain ⟨hc1, hf1⟩ := bcell hb1; have hz1 := hb1.size; (try simp only [World.size_alloc, World.size_setCell, World.size_drew, sizeDrewN] at hz1 hc1 hf1)
        have q0' : w1.cell? ⟨w.heap.size, 0, none⟩ = some (.int .i64 k) := by simp (disch := omega) [hc1, q0, go_sem]
        have q1' : w1.cell? ⟨w.heap.size, 1, none⟩ = some (.int .i64 n) := by simp (disch := omega) [hc1, q1, go_sem]
        have q2' : w1.cell? ⟨w.heap.size, 2, none⟩ = some (.string s) := by simp (disch := omega) [hc1, q2, go_sem]
        have q3' : w1.cell? ⟨w.heap.size, 3, none⟩ = some (.slice xa x.length xc) := by simp (disch := omega) [hc1, q3, go_sem]
        have q4' : w1.cell? ⟨w.heap.size, 4, none⟩ = some (.slice (some ⟨b, off, none⟩) ms.length cap) := by simp (disch := omega) [hc1, q4, go_sem]
        go_wp2_with fail
        go_roundw
        case rel => exact ⟨j + 1, by omega, by go_num, HPRE2.out, ⟨q0', q1', q2', q3', q4'⟩, by (repeat (first | with_reducible assumption | with_reducible exact Below.refl _ _ | with_reducible refine Below.drew ?_ | with_reducible refine belowDrewN ?_ _ | ((with_reducible refine Below.setCell ?_ ?_ _); rotate_left; focus (first | omega | (simp; done) | (simp; omega))) | ((with_reducible refine Below.alloc ?_ ?_ _); rotate_left; focus (first | omega | (simp; done) | (simp; omega))) | ((with_reducible refine Below.trans ?_ (Below.mono hb1 ?_)); rotate_left; focus (first | omega | (simp; done) | (simp; omega))))), by omega⟩
        case measure => simp [intOf]; omega
      · have hokb : (Syn.mk k1 n1 s1 x1 ds1).okB = false := Syn.okB_false.2 hok
        have hno : (Syn.mk k n s x ds).okB = false := Syn.okB_false.2 fun h => hok ((Syn.ok_mk.1 h).2.2 _ hmem)
        have HD := Lib.hid hd; clear hd; have HI1 := Lib.hid hi1; clear hi1; have HIN1 := Lib.hid hin1; clear hin1; have HW1 := Lib.hid hw1; clear hw1; have HMEM := Lib.hid hmem; clear hmem; have HPRE := Lib.hid hpre; clear hpre; have HOK := Lib.hid hok; clear hok; have HNO := Lib.hid hno; clear hno; have HX1 := Lib.hid hx1; clear hx1
        go_wp2_with fail
        refine (IH.out k1 n1 s1 x1 ds1 HMEM.out k1 n1 s1 x1 xa1 xc1 a1 cap1 ms1 _ HW1.out HI1.out (HX1.out.below (by (repeat (first | with_reducible assumption | with_reducible exact Below.refl _ _ | with_reducible refine Below.drew ?_ | with_reducible refine belowDrewN ?_ _ | ((with_reducible refine Below.setCell ?_ ?_ _); rotate_left; focus (first | omega | (simp; done) | (simp; omega))) | ((with_reducible refine Below.alloc ?_ ?_ _); rotate_left; focus (first | omega | (simp; done) | (simp; omega))))))) (HIN1.out.below (by (repeat (first | with_reducible assumption | with_reducible exact Below.refl _ _ | with_reducible refine Below.drew ?_ | with_reducible refine belowDrewN ?_ _ | ((with_reducible refine Below.setCell ?_ ?_ _); rotate_left; focus (first | omega | (simp; done) | (simp; omega))) | ((with_reducible refine Below.alloc ?_ ?_ _); rotate_left; focus (first | omega | (simp; done) | (simp; omega)))))))).mono ?_
        rintro e w1 ⟨rfl, hb1⟩
        obtain ⟨hc1, hf1⟩ := bcell hb1; have hz1 := hb1.size; (try simp only [World.size_alloc, World.size_setCell, World.size_drew, sizeDrewN] at hz1 hc1 hf1)
        go_wp2_with fail
        go_ret
        exact ⟨ret_b HNO.out.symm, by (repeat (first | with_reducible assumption | with_reducible exact Below.refl _ _ | with_reducible refine Below.drew ?_ | with_reducible refine belowDrewN ?_ _ | ((with_reducible refine Below.setCell ?_ ?_ _); rotate_left; focus (first | omega | (simp; done) | (simp; omega))) | ((with_reducible refine Below.alloc ?_ ?_ _); rotate_left; focus (first | omega | (simp; done) | (simp; omega))) | ((with_reducible refine Below.trans ?_ (Below.mono hb1 ?_)); rotate_left; focus (first | omega | (simp; done) | (simp; omega)))))⟩
    · have hk2 : j = ms.length := by omega
      subst hk2
      have hfin : (Syn.mk k n s x ds).okB = (nodeB k n s ms.length && scB k x) := by
        rw [HL.out, List.take_length] at hpre
        cases hq : nodeB k n s ms.length with
        | true =>
          cases hq2 : scB k x with
          | true => rw [Bool.and_self, Syn.okB_true, Syn.ok_mk, ← HL.out]; exact ⟨hq, hq2, hpre⟩
          | false => rw [Bool.and_false, Syn.okB_false, Syn.ok_mk, hq2]; simp
        | false => rw [Bool.false_and, Syn.okB_false, Syn.ok_mk, ← HL.out, hq]; simp
      clear hpre
      cases hnode : nodeB k n s ms.length with
      | false =>
        rw [hnode, Bool.false_and] at hfin
        have HFIN := Lib.hid hfin; clear hfin
        go_wp2_with fail
        refine (l1Node_calls k n s ms.length _ hs).mono ?_
        rintro e w1 ⟨rfl, rfl⟩
        go_wp2_with fail
        go_ret
        exact ⟨ret_b HFIN.out.symm, hb⟩
      | true =>
        rw [hnode, Bool.true_and] at hfin
        cases hss : ssB x with
        | false =>
          have hfin' : (Syn.mk k n s x ds).okB = false := by rw [hfin, scB, hss, Bool.false_and]
          clear hfin
          have HFIN' := Lib.hid hfin'; clear hfin'
          go_wp2_with fail
          refine (l1Node_calls k n s ms.length _ hs).mono ?_
          rintro e w1 ⟨rfl, rfl⟩
          go_wp2_with fail
          refine (sIsScopeSet_calls xa xc x _ (HX.out.below hb)).mono ?_
          rintro e w1 ⟨rfl, hb1⟩
          obtain ⟨hc1, hf1⟩ := bcell hb1; have hz1 := hb1.size; (try simp only [World.size_alloc, World.size_setCell, World.size_drew, sizeDrewN] at hz1 hc1 hf1)
          go_wp2_with fail
          go_ret
          exact ⟨ret_b HFIN'.out.symm, by (repeat (first | with_reducible assumption | with_reducible exact Below.refl _ _ | with_reducible refine Below.drew ?_ | with_reducible refine belowDrewN ?_ _ | ((with_reducible refine Below.setCell ?_ ?_ _); rotate_left; focus (first | omega | (simp; done) | (simp; omega))) | ((with_reducible refine Below.alloc ?_ ?_ _); rotate_left; focus (first | omega | (simp; done) | (simp; omega))) | ((with_reducible refine Below.trans ?_ (Below.mono hb1 ?_)); rotate_left; focus (first | omega | (simp; done) | (simp; omega)))))⟩
        | true =>
          have hfin' : (Syn.mk k n s x ds).okB = (decide (x.length = 0) || decide (k = 1)) := by rw [hfin, scB, hss, Bool.true_and]
          clear hfin
          by_cases hx0 : x.length = 0
          · have hx0' : ((x.length : Int) == 0) = true := by simp [hx0]
            have hfin2 : (Syn.mk k n s x ds).okB = true := by rw [hfin']; simp [hx0]
            have HFIN2 := Lib.hid hfin2; clear hfin2; have HFIN' := Lib.hid hfin'; clear hfin'; have HX0 := Lib.hid hx0; clear hx0
            go_wp2_with fail
            refine (l1Node_calls k n s ms.length _ hs).mono ?_
            rintro e w1 ⟨rfl, rfl⟩
            go_wp2_with fail
            refine (sIsScopeSet_calls xa xc x _ (HX.out.below hb)).mono ?_
            rintro e w1 ⟨rfl, hb1⟩
            obtain ⟨hc1, hf1⟩ := bcell hb1; have hz1 := hb1.size; (try simp only [World.size_alloc, World.size_setCell, World.size_drew, sizeDrewN] at hz1 hc1 hf1)
            have q3' : w1.cell? ⟨w.heap.size, 3, none⟩ = some (.slice xa x.length xc) := by simp (disch := omega) [hc1, q3, go_sem]
            go_wp2_with fail
            go_ret
            exact ⟨ret_b HFIN2.out.symm, by (repeat (first | with_reducible assumption | with_reducible exact Below.refl _ _ | with_reducible refine Below.drew ?_ | with_reducible refine belowDrewN ?_ _ | ((with_reducible refine Below.setCell ?_ ?_ _); rotate_left; focus (first | omega | (simp; done) | (simp; omega))) | ((with_reducible refine Below.alloc ?_ ?_ _); rotate_left; focus (first | omega | (simp; done) | (simp; omega))) | ((with_reducible refine Below.trans ?_ (Below.mono hb1 ?_)); rotate_left; focus (first | omega | (simp; done) | (simp; omega)))))⟩
          · have hx0' : ((x.length : Int) == 0) = false := by simp; intro h; exact hx0 (by simp [h])
            have hfin2 : (Syn.mk k n s x ds).okB = (k == 1) := by rw [hfin']; rw [show decide (x.length = 0) = false by simpa using hx0, Bool.false_or]; by_cases h : k = 1 <;> simp [h]
            have HFIN2 := Lib.hid hfin2; clear hfin2; have HFIN' := Lib.hid hfin'; clear hfin'; have HX0 := Lib.hid hx0; clear hx0
            go_wp2_with fail
            refine (l1Node_calls k n s ms.length _ hs).mono ?_
            rintro e w1 ⟨rfl, rfl⟩
            go_wp2_with fail
            refine (sIsScopeSet_calls xa xc x _ (HX.out.below hb)).mono ?_
            rintro e w1 ⟨rfl, hb1⟩
            obtain ⟨hc1, hf1⟩ := bcell hb1; have hz1 := hb1.size; (try simp only [World.size_alloc, World.size_setCell, World.size_drew, sizeDrewN] at hz1 hc1 hf1)
            have q3' : w1.cell? ⟨w.heap.size, 3, none⟩ = some (.slice xa x.length xc) := by simp (disch := omega) [hc1, q3, go_sem]
            have q0' : w1.cell? ⟨w.heap.size, 0, none⟩ = some (.int .i64 k) := by simp (disch := omega) [hc1, q0, go_sem]
            go_wp2_with fail
            go_ret
            exact ⟨ret_b HFIN2.out.symm, by (repeat (first | with_reducible assumption | with_reducible exact Below.refl _ _ | with_reducible refine Below.drew ?_ | with_reducible refine belowDrewN ?_ _ | ((with_reducible refine Below.setCell ?_ ?_ _); rotate_left; focus (first | omega | (simp; done) | (simp; omega))) | ((with_reducible refine Below.alloc ?_ ?_ _); rotate_left; focus (first | omega | (simp; done) | (simp; omega))) | ((with_reducible refine Below.trans ?_ (Below.mono hb1 ?_)); rotate_left; focus (first | omega | (simp; done) | (simp; omega)))))⟩
end Go.Proofs.Ytghbnehocggnnaa

/-
  Walks: the program's measure of a piece of syntax. No condition.
-/
set_option linter.unusedVariables false
set_option linter.unusedSimpArgs false
set_option maxRecDepth 100000
namespace Go.Proofs.Ytghbnehocggnnaa
open Go.RowKit

def RetMs2 (ok : Prop) (C : Int) (m : Nat) (pb : Nat) (w : World) (e : Ending) (w' : World) : Prop :=
  ∃ (b : Bool) (C' : Int), e = .returned (.bool b) ∧ (b = true ↔ ok) ∧ (b = true → C' = C + m) ∧ C ≤ C' ∧ C' ≤ C + m ∧ w'.cell? ⟨pb, 0, none⟩ = some (.int .i64 C') ∧ w'.frozen? ⟨pb, 0, none⟩ = false ∧ OnlyIn pb (pb + 1) w w'
def MsOkS (k n : Int) (s : ByteArray) (x : List Int) (ds : List Syn) (D C : Int) : Prop := D + Syn.depthL ds ≤ 40 ∧ C + 1 + Syn.countL ds ≤ 2000 ∧ (Syn.mk k n s x ds).ok
def MsSs (ds : List Syn) : Prop := ∀ (k n : Int) (s : ByteArray) (x : List Int) (xa : Option Addr) (xc : Nat) (a : Option Addr) (cap : Nat) (ms : List M) (D : Int) (pb : Nat) (C : Int) (w0 w : World), (Syn.mk k n s x ds).wf → Syn.countL ds ≤ 1000000000 → Syn.IsL 27 ds ms → (M.sl xa xc 1 3 (intM x)).In w0 → (M.sl a cap 5 27 ms).In w0 →
    Below w0.heap.size w0 w → w0.heap.size ≤ pb → 0 ≤ D → D ≤ 1000000000 → 0 ≤ C → C ≤ 1000000000 → w.cell? ⟨pb, 0, none⟩ = some (.int .i64 C) → w.frozen? ⟨pb, 0, none⟩ = false →
    Calls Try.prog 64 #[.agg #[.int .i64 k, .int .i64 n, .string s, .slice xa x.length xc, .slice a ms.length cap], .int .i64 D, .pointer (some ⟨pb, 0, none⟩)] w (RetMs2 (MsOkS k n s x ds D C) C (1 + Syn.countL ds) pb w)
set_option maxHeartbeats 2000000 in
theorem measureSyntax_calls : ∀ ds, MsSs ds := by
  refine Syn.inductL fun ds ih => ?_
  intro k n s x xa xc a cap ms D pb C w0 w hwf hB hi hx hin hb0 hpb hD0 hD9 hC0 hC9 hp hpf
  have hl := hi.length
  have hcap := hin.len
  have hxl := Ints.len hx
  have hpw := World.block_lt_of_cell? w _ hp
  simp only at hpw
  have hs : s.size ≤ 9223372036854775807 := hwf.2.2.1
  have hwl := hwf.2.2.2.2
  have hok : MsOkS k n s x ds D C ↔ D + Syn.depthL ds ≤ 40 ∧ C + 1 + Syn.countL ds ≤ 2000 ∧ nodeB k n s ms.length = true ∧ scB k x = true ∧ ∀ d ∈ ds, d.ok := by unfold MsOkS; rw [Syn.ok_mk, ← hl]
  clear hwf
  have ho1 : OnlyIn pb (pb + 1) w (w.setCell ⟨pb, 0, none⟩ (.int .i64 (C + 1))) := (OnlyIn.refl pb (pb + 1) w).set ⟨pb, 0, none⟩ _ (Nat.le_refl _) (Nat.lt_succ_self _)
  by_cases hdeep : 40 < D
  · have hno : ¬ MsOkS k n s x ds D C := fun h => by have := h.1; omega
    have IH := Lib.hid ih; clear ih; have HIN := Lib.hid hin; clear hin; have HI := Lib.hid hi; clear hi; have HL := Lib.hid hl; clear hl; have HWL := Lib.hid hwl; clear hwl; have HOK := Lib.hid hok; clear hok; have HNO := Lib.hid hno; clear hno; have HX := Lib.hid hx; clear hx
    go_enter Try.func64, Try.ntmps64
    go_wp2_with fail
    go_ret
    refine ⟨false, C + 1, rfl, by simp [HNO.out], by simp, by omega, by omega, ?_, ?_, ?_⟩
    · simp (disch := (first | omega | (simp; omega))) [go_sem, hp]
    · simp (disch := (first | omega | (simp; omega))) [go_sem, hpf]
    · first | exact ho1 | exact ho1.new _
  · by_cases hmany : 2000 < C + 1
    · have hno : ¬ MsOkS k n s x ds D C := fun h => by have := h.2.1; omega
      have IH := Lib.hid ih; clear ih; have HIN := Lib.hid hin; clear hin; have HI := Lib.hid hi; clear hi; have HL := Lib.hid hl; clear hl; have HWL := Lib.hid hwl; clear hwl; have HOK := Lib.hid hok; clear hok; have HNO := Lib.hid hno; clear hno; have HX := Lib.hid hx; clear hx
      go_enter Try.func64, Try.ntmps64
      go_wp2_with fail
      go_ret
      refine ⟨false, C + 1, rfl, by simp [HNO.out], by simp, by omega, by omega, ?_, ?_, ?_⟩
      · simp (disch := (first | omega | (simp; omega))) [go_sem, hp]
      · simp (disch := (first | omega | (simp; omega))) [go_sem, hpf]
      · first | exact ho1 | exact ho1.new _
    · cases hnode : nodeB k n s ms.length with
      | false =>
        have hno : ¬ MsOkS k n s x ds D C := fun h => by rw [hok, hnode] at h; simp at h
        have IH := Lib.hid ih; clear ih; have HIN := Lib.hid hin; clear hin; have HI := Lib.hid hi; clear hi; have HL := Lib.hid hl; clear hl; have HWL := Lib.hid hwl; clear hwl; have HOK := Lib.hid hok; clear hok; have HNO := Lib.hid hno; clear hno; have HX := Lib.hid hx; clear hx
        go_enter Try.func64, Try.ntmps64
        go_wp2_with fail
        refine (rightNode_calls k n s ms.length _ hs).mono ?_
        rintro e w1 ⟨rfl, rfl⟩
        go_wp2_with fail
        go_ret
        refine ⟨false, C + 1, rfl, by simp [HNO.out], by simp, by omega, by omega, ?_, ?_, ?_⟩
        · simp (disch := (first | omega | (simp; omega))) [go_sem, hp]
        · simp (disch := (first | omega | (simp; omega))) [go_sem, hpf]
        · first | exact ho1 | exact ho1.new _
      | true =>
        by_cases hkx : ¬ k = 1 ∧ 0 < x.length
        · have hno : ¬ MsOkS k n s x ds D C := fun h => by
            rw [hok] at h
            have h4 := h.2.2.2.1
            simp only [scB, Bool.and_eq_true, Bool.or_eq_true, decide_eq_true_eq] at h4
            rcases h4.2 with h5 | h5
            · omega
            · exact hkx.1 h5
          have hk1 : (k != 1) = true := by simp [hkx.1]
          have hx0 : 0 < (x.length : Int) := by omega
          have hx0n : 0 < x.length := hkx.2
          have hx0d : decide (0 < (x.length : Int)) = true := by simpa using hkx.2
          have IH := Lib.hid ih; clear ih; have HIN := Lib.hid hin; clear hin; have HI := Lib.hid hi; clear hi; have HL := Lib.hid hl; clear hl; have HWL := Lib.hid hwl; clear hwl; have HOK := Lib.hid hok; clear hok; have HNO := Lib.hid hno; clear hno; have HX := Lib.hid hx; clear hx; have HKX := Lib.hid hkx; clear hkx
          go_enter Try.func64, Try.ntmps64
          go_wp2_with fail
          refine (rightNode_calls k n s ms.length _ hs).mono ?_
          rintro e w1 ⟨rfl, rfl⟩
          go_wp2_with fail
          go_ret
          refine ⟨false, C + 1, rfl, by simp [HNO.out], by simp, by omega, by omega, ?_, ?_, ?_⟩
          · simp (disch := (first | omega | (simp; omega))) [go_sem, hp]
          · simp (disch := (first | omega | (simp; omega))) [go_sem, hpf]
          · first | exact ho1 | exact ho1.new _
        · have hwin : (M.sl xa xc 1 3 (intM x)).In (w.setCell ⟨pb, 0, none⟩ (.int .i64 (C + 1))) := hx.below (ho1.low hb0 hpb)
          have hkx' : (k = 1) ∨ (¬ k = 1 ∧ ¬ 0 < x.length) := by
            by_cases h : k = 1
            · exact .inl h
            · exact .inr ⟨h, fun h2 => hkx ⟨h, h2⟩⟩
          have hsc : scB k x = ssB x := by
            unfold scB
            rcases hkx' with h | ⟨_, h⟩
            · simp [h]
            · simp [show x.length = 0 by omega]
          have hs' : (w.setCell ⟨pb, 0, none⟩ (.int .i64 (C + 1))).heap.size = w.heap.size := by simp
          clear hkx
          have hcase : ((k != 1) = false ∧ True ∧ True) ∨ ((k != 1) = true ∧ ¬ 0 < x.length ∧ decide (0 < x.length) = false) := by
            rcases hkx' with h | ⟨h, h2⟩
            · exact .inl ⟨by simp [h], trivial, trivial⟩
            · exact .inr ⟨by simp [h], by omega, by rw [decide_eq_false_iff_not]; exact h2⟩
          clear hkx'
          rcases hcase with ⟨hk1, hx0, hx0d⟩ | ⟨hk1, hx0, hx0d⟩
          all_goals
            cases hss : ssB x with
            | false =>
              have hno : ¬ MsOkS k n s x ds D C := fun h => by
                rw [hok] at h
                have h4 := h.2.2.2.1
                rw [hsc, hss] at h4
                simp at h4
              have IH := Lib.hid ih; clear ih; have HIN := Lib.hid hin; clear hin; have HI := Lib.hid hi; clear hi; have HL := Lib.hid hl; clear hl; have HWL := Lib.hid hwl; clear hwl; have HOK := Lib.hid hok; clear hok; have HNO := Lib.hid hno; clear hno; have HX := Lib.hid hx; clear hx; have HWIN := Lib.hid hwin; clear hwin; have HSC := Lib.hid hsc; clear hsc
              go_enter Try.func64, Try.ntmps64
              go_wp2_with fail
              refine (rightNode_calls k n s ms.length _ hs).mono ?_
              rintro e w1 ⟨rfl, rfl⟩
              go_wp2_with fail
              refine (iIsScopeSet_calls xa xc x _ (HWIN.out.below (by (repeat (first | with_reducible assumption | with_reducible exact Below.refl _ _ | with_reducible refine Below.drew ?_ | with_reducible refine belowDrewN ?_ _ | ((with_reducible refine Below.setCell ?_ ?_ _); rotate_left; focus (first | omega | (simp; done) | (simp; omega))) | ((with_reducible refine Below.alloc ?_ ?_ _); rotate_left; focus (first | omega | (simp; done) | (simp; omega)))))))).mono ?_
              rintro e w1 ⟨rfl, hb1⟩
              obtain ⟨hc1, hf1⟩ := bcell hb1; have hz1 := hb1.size; (try simp only [World.size_alloc, World.size_setCell, World.size_drew, sizeDrewN] at hz1 hc1 hf1)
              have q' : w1.cell? ⟨pb, 0, none⟩ = some (.int .i64 (C + 1)) := by rw [hc1 _ _ (by omega)]; simp (disch := (first | omega | (simp; omega))) [go_sem, hp]
              have qf' : w1.frozen? ⟨pb, 0, none⟩ = false := by rw [hf1 _ _ (by omega)]; simp (disch := (first | omega | (simp; omega))) [go_sem, hpf]
              go_wp2_with fail
              go_ret
              exact ⟨false, C + 1, rfl, by simp [HNO.out], by simp, by omega, by omega, q', qf', (ho1.new _).trans (OnlyIn.of_below hb1)⟩
            | true =>
              have hsc1 : scB k x = true := by rw [hsc, hss]
              have IH := Lib.hid ih; clear ih; have HIN := Lib.hid hin; clear hin; have HI := Lib.hid hi; clear hi; have HL := Lib.hid hl; clear hl; have HWL := Lib.hid hwl; clear hwl; have HOK := Lib.hid hok; clear hok; have HX := Lib.hid hx; clear hx; have HWIN := Lib.hid hwin; clear hwin; have HSC := Lib.hid hsc; clear hsc
              go_enter Try.func64, Try.ntmps64
              go_wp2_with fail
              refine (rightNode_calls k n s ms.length _ hs).mono ?_
              rintro e w1 ⟨rfl, rfl⟩
              go_wp2_with fail
              refine (iIsScopeSet_calls xa xc x _ (HWIN.out.below (by (repeat (first | with_reducible assumption | with_reducible exact Below.refl _ _ | with_reducible refine Below.drew ?_ | with_reducible refine belowDrewN ?_ _ | ((with_reducible refine Below.setCell ?_ ?_ _); rotate_left; focus (first | omega | (simp; done) | (simp; omega))) | ((with_reducible refine Below.alloc ?_ ?_ _); rotate_left; focus (first | omega | (simp; done) | (simp; omega)))))))).mono ?_
              rintro e w1 ⟨rfl, hb1⟩
              obtain ⟨hc1, hf1⟩ := bcell hb1; have hz1 := hb1.size; (try simp only [World.size_alloc, World.size_setCell, World.size_drew, sizeDrewN] at hz1 hc1 hf1)
              have q1_ : w1.cell? ⟨pb, 0, none⟩ = some (.int .i64 (C + 1)) := by rw [hc1 _ _ (by omega)]; simp (disch := (first | omega | (simp; omega))) [go_sem, hp]
              have qf1_ : w1.frozen? ⟨pb, 0, none⟩ = false := by rw [hf1 _ _ (by omega)]; simp (disch := (first | omega | (simp; omega))) [go_sem, hpf]
              have q4_ : w1.cell? ⟨w.heap.size, 4, none⟩ = some (.slice a ms.length cap) := by
                rw [hc1 _ _ (by omega), ← hs', World.cell?_alloc_new]; rfl
              have ho2_ : OnlyIn pb (pb + 1) w w1 := (ho1.new _).trans (OnlyIn.of_below hb1)
              clear hb1 hc1 hf1
              have HO2_ := Lib.hid ho2_; clear ho2_
              go_wp2_with fail
              go_loopw [53] (fun i wr => ∃ (j : Nat), j ≤ ms.length ∧ i = .int .i64 j ∧ D + Syn.depthL (ds.take j) ≤ 40 ∧ C + 1 + Syn.countL (ds.take j) ≤ 2000 ∧ (∀ x ∈ ds.take j, x.ok) ∧ (wr.cell? ⟨pb, 0, none⟩ = some (.int .i64 (C + 1 + Syn.countL (ds.take j))) ∧ wr.frozen? ⟨pb, 0, none⟩ = false) ∧ OnlyIn pb (pb + 1) w wr ∧ w.heap.size + 1 ≤ wr.heap.size) (fun i _ => ms.length - (intOf i).toNat)
              case atStart => exact ⟨0, Nat.zero_le _, rfl, by simp [Syn.depthL]; omega, by simp [Syn.countL]; omega, by simp, ⟨by simpa [Syn.countL] using q1_, qf1_⟩, HO2_.out, by omega⟩
              case round =>
                clear q1_ qf1_ q4_
                obtain ⟨j, hj, rfl, hdp, hct, hpre, ⟨q, qf⟩, ho, hsz⟩ := hrel
                have hbz := ho.low hb0 hpb
                by_cases hlt : j < ms.length
                · obtain ⟨b, off, k1, n1, s1, x1, ds1, xa1, xc1, a1, cap1, ms1, rfl, hd, hi1, hx1, hin1, c0, c1, c2, c3, c4⟩ := Syn.elem HIN.out HI.out j hlt
                  have hbl := World.block_lt_of_cell? w0 _ c0
                  simp only at hbl
                  have e0 := (hbz.cell (p := ⟨b, _, none⟩) hbl).trans c0
                  have e1 := (hbz.cell (p := ⟨b, _, none⟩) hbl).trans c1
                  have e2 := (hbz.cell (p := ⟨b, _, none⟩) hbl).trans c2
                  have e3 := (hbz.cell (p := ⟨b, _, none⟩) hbl).trans c3
                  have e4 := (hbz.cell (p := ⟨b, _, none⟩) hbl).trans c4
                  clear c0 c1 c2 c3 c4
                  obtain ⟨ht, hle⟩ := Syn.countL_le ds j _ hd
                  have htd := Syn.depthL_take hd
                  have hgd := Syn.depthL_get hd
                  have hw1 := Syn.wfL_get HWL.out hd
                  have hmem := List.mem_of_getElem? hd
                  simp only [Syn.count] at hle ht
                  simp only [Syn.depth] at htd hgd
                  have hD20 : D ≤ 40 := by omega
                  have hbx := hbz.alloc (by first | exact hbz.size | omega) (.cells #[.int .i64 k1, .int .i64 n1, .string s1, .slice xa1 x1.length xc1, .slice a1 ms1.length cap1] 27)
                  generalize hCe : C + 1 + (Syn.countL (ds.take j) : Int) = C1 at *
                  have hC1 : 0 ≤ C1 := by omega
                  have hpr : pb < wr.heap.size := by omega
                  have q1 : (wr.alloc (.cells #[.int .i64 k1, .int .i64 n1, .string s1, .slice xa1 x1.length xc1, .slice a1 ms1.length cap1] 27)).cell? ⟨pb, 0, none⟩ = some (.int .i64 C1) := by simp (disch := (first | omega | (simp; omega))) [go_sem, q]
                  have q1f : (wr.alloc (.cells #[.int .i64 k1, .int .i64 n1, .string s1, .slice xa1 x1.length xc1, .slice a1 ms1.length cap1] 27)).frozen? ⟨pb, 0, none⟩ = false := by simp (disch := (first | omega | (simp; omega))) [go_sem, qf]
                  have HD := Lib.hid hd; clear hd; have HI1 := Lib.hid hi1; clear hi1; have HIN1 := Lib.hid hin1; clear hin1; have HMEM := Lib.hid hmem; clear hmem; have HT := Lib.hid ht; clear ht; have HTD := Lib.hid htd; clear htd; have HGD := Lib.hid hgd; clear hgd; have HW1 := Lib.hid hw1; clear hw1; have HB0 := Lib.hid hb0; clear hb0; have HBZ := Lib.hid hbz; clear hbz; have HO := Lib.hid ho; clear ho; have HBX := Lib.hid hbx; clear hbx; have HPRE := Lib.hid hpre; clear hpre; have HCE := Lib.hid hCe; clear hCe; have Q1 := Lib.hid q1; clear q1; have Q1F := Lib.hid q1f; clear q1f; have HX1 := Lib.hid hx1; clear hx1
                  go_wp2_with fail
                  refine (IH.out k1 n1 s1 x1 ds1 HMEM.out k1 n1 s1 x1 xa1 xc1 a1 cap1 ms1 (D + 1) pb C1 w0 _ HW1.out (by omega) HI1.out HX1.out HIN1.out HBX.out hpb (by omega) (by omega) hC1 (by omega) Q1.out Q1F.out).mono ?_
                  rintro e w1 ⟨bb, C', rfl, hbb, hbc, hlo, hhi, q', qf', ho2⟩
                  have hof := (HO.out.new (.cells #[.int .i64 k1, .int .i64 n1, .string s1, .slice xa1 x1.length xc1, .slice a1 ms1.length cap1] 27)).trans ho2
                  have hz2 := ho2.size
                  simp only [World.size_alloc] at hz2
                  cases bb with
                  | true =>
                    obtain ⟨m1, m2, m3⟩ := hbb.1 rfl
                    have hcc := hbc rfl
                    have hpre2 := syn_ok_take HPRE.out HD.out m3
                    have hdp2 : D + (Syn.depthL (ds.take (j + 1)) : Int) ≤ 40 := by rw [HTD.out]; omega
                    have hct2 : C + 1 + (Syn.countL (ds.take (j + 1)) : Int) = C' := by rw [HT.out, hcc, ← HCE.out]; push_cast; omega
                    have HOF := Lib.hid hof; clear hof; have HO2 := Lib.hid ho2; clear ho2; have HPRE2 := Lib.hid hpre2; clear hpre2; have HDP2 := Lib.hid hdp2; clear hdp2; have HBB := Lib.hid hbb; clear hbb; have HBC := Lib.hid hbc; clear hbc; have HCC := Lib.hid hcc; clear hcc; have M3 := Lib.hid m3; clear m3
                    go_wp2_with fail
                    go_roundw
                    case rel => exact ⟨j + 1, by omega, by go_num, HDP2.out, by rw [hct2]; have := HCC.out; omega, HPRE2.out, ⟨by rw [hct2]; exact q', qf'⟩, HOF.out, by omega⟩
                    case measure => simp [intOf]; omega
                  | false =>
                    have hno : ¬ MsOkS k n s x ds D C := fun h => by
                      have h' := HOK.out.1 h
                      have : ¬ MsOkS k1 n1 s1 x1 ds1 (D + 1) C1 := fun h2 => by have := hbb.2 h2; simp at this
                      apply this
                      refine ⟨?_, ?_, h'.2.2.2.2 _ HMEM.out⟩
                      · have := HGD.out; omega
                      · have := HCE.out; omega
                    have hcl : C + ((1 + Syn.countL ds : Nat) : Int) = C + 1 + Syn.countL ds := by push_cast; omega
                    have hce := HCE.out
                    have HOF := Lib.hid hof; clear hof; have HO2 := Lib.hid ho2; clear ho2; have HBB := Lib.hid hbb; clear hbb; have HBC := Lib.hid hbc; clear hbc; have HNO := Lib.hid hno; clear hno
                    go_wp2_with fail
                    go_ret
                    exact ⟨false, C', rfl, by simp [HNO.out], by simp, by omega, by push_cast at hhi ⊢; omega, q', qf', HOF.out⟩
                · have hk2 : j = ms.length := by omega
                  subst hk2
                  have hd2 : ds.take ms.length = ds := by rw [HL.out, List.take_length]
                  rw [hd2] at q hdp hct hpre
                  have hyes : MsOkS k n s x ds D C := HOK.out.2 ⟨hdp, hct, hnode, hsc1, hpre⟩
                  have HO := Lib.hid ho; clear ho; have HBZ := Lib.hid hbz; clear hbz; have HD2 := Lib.hid hd2; clear hd2; have HYES := Lib.hid hyes; clear hyes; have HPRE := Lib.hid hpre; clear hpre
                  go_wp2_with fail
                  go_ret
                  exact ⟨true, _, rfl, by simp [HYES.out], fun _ => rfl, by push_cast; omega, Int.le_refl _, by rw [q]; congr 2; push_cast; omega, qf, HO.out⟩
end Go.Proofs.Ytghbnehocggnnaa

/-
  Walks: IsSyntax. No condition.
-/
set_option linter.unusedVariables false
set_option linter.unusedSimpArgs false
set_option maxRecDepth 100000
namespace Go.Proofs.Ytghbnehocggnnaa
open Go.RowKit

def IsSynP (k n : Int) (s : ByteArray) (x : List Int) (ds : List Syn) : Prop := 1 + Syn.countL ds ≤ 2000 ∧ 1 + Syn.depthL ds ≤ 40 ∧ (Syn.mk k n s x ds).ok
open Classical in
noncomputable def isSynB (k n : Int) (s : ByteArray) (x : List Int) (ds : List Syn) : Bool := decide (IsSynP k n s x ds)
theorem isSynB_yes {k n : Int} {s : ByteArray} {x : List Int} {ds : List Syn} (h : IsSynP k n s x ds) : isSynB k n s x ds = true := by simp [isSynB, h]
theorem isSynB_no {k n : Int} {s : ByteArray} {x : List Int} {ds : List Syn} (h : ¬ IsSynP k n s x ds) : isSynB k n s x ds = false := by simp [isSynB, h]
theorem isSynB_iff {k n : Int} {s : ByteArray} {x : List Int} {ds : List Syn} : isSynB k n s x ds = true ↔ IsSynP k n s x ds := by simp [isSynB]

theorem iIsSyntax_calls (k n : Int) (s : ByteArray) (x : List Int) (ds : List Syn) (xa : Option Addr) (xc : Nat) (a : Option Addr) (cap : Nat) (ms : List M) (w : World) (hwf : (Syn.mk k n s x ds).wf) (hB : Syn.countL ds ≤ 1000000000) (hi : Syn.IsL 27 ds ms) (hown : (SynOwn 27 xa xc x a cap ms).In w) :
    Calls Try.prog 29 #[.agg #[.int .i64 k, .int .i64 n, .string s, .slice xa x.length xc, .slice a ms.length cap]] w (Ret (.bool (isSynB k n s x ds)) w) := by
  have HI := Lib.hid hi; clear hi; have HOWN := Lib.hid hown; clear hown; have HWF := Lib.hid hwf; clear hwf
  go_enter Try.func29, Try.ntmps29
  go_wp2_with fail
  refine (measureSyntax_calls ds k n s x xa xc a cap ms 1 (w.heap.size + 1) 0 w _ HWF.out hB HI.out (SynIn_x HOWN.out) (SynIn_ms HOWN.out) (by (repeat (first | with_reducible assumption | with_reducible exact Below.refl _ _ | with_reducible refine Below.drew ?_ | with_reducible refine belowDrewN ?_ _ | ((with_reducible refine Below.setCell ?_ ?_ _); rotate_left; focus (first | omega | (simp; done) | (simp; omega))) | ((with_reducible refine Below.alloc ?_ ?_ _); rotate_left; focus (first | omega | (simp; done) | (simp; omega)))))) (by omega) (by omega) (by omega) (by omega) (by omega) (by simp [go_sem]) (by simp [go_sem])).mono ?_
  rintro e w1 ⟨bb, C', rfl, hbb, hbc, hlo, hhi, q', qf', ho2⟩
  have hbel : Below w.heap.size w w1 := ho2.low (by (repeat (first | with_reducible assumption | with_reducible exact Below.refl _ _ | with_reducible refine Below.drew ?_ | with_reducible refine belowDrewN ?_ _ | ((with_reducible refine Below.setCell ?_ ?_ _); rotate_left; focus (first | omega | (simp; done) | (simp; omega))) | ((with_reducible refine Below.alloc ?_ ?_ _); rotate_left; focus (first | omega | (simp; done) | (simp; omega)))))) (by omega)
  have hv : bb = isSynB k n s x ds := by
    have hx : MsOkS k n s x ds 1 0 ↔ IsSynP k n s x ds := by unfold MsOkS IsSynP; constructor <;> (rintro ⟨h1, h2, h3⟩; exact ⟨by omega, by omega, h3⟩)
    cases bb with
    | true => exact (isSynB_yes (hx.1 (hbb.1 rfl))).symm
    | false => exact (isSynB_no fun h => by have := hbb.2 (hx.2 h); simp at this).symm
  have HBB := Lib.hid hbb; clear hbb; have HBC := Lib.hid hbc; clear hbc; have HO2 := Lib.hid ho2; clear ho2; have HBEL := Lib.hid hbel; clear hbel
  go_wp2_with fail
  go_ret
  exact ⟨rfl, HBEL.out⟩
theorem sIsSyntax_calls (k n : Int) (s : ByteArray) (x : List Int) (ds : List Syn) (xa : Option Addr) (xc : Nat) (a : Option Addr) (cap : Nat) (ms : List M) (w : World) (hwf : (Syn.mk k n s x ds).wf) (hB : Syn.countL ds ≤ 1000000000) (hi : Syn.IsL 27 ds ms) (hown : (SynOwn 27 xa xc x a cap ms).In w) :
    Calls Try.prog 30 #[.agg #[.int .i64 k, .int .i64 n, .string s, .slice xa x.length xc, .slice a ms.length cap]] w (Ret (.bool (isSynB k n s x ds)) w) := by
  have hdl := Syn.depthL_le ds
  have hx := SynIn_x hown
  have hin := SynIn_ms hown
  clear hown
  have HI := Lib.hid hi; clear hi; have HIN := Lib.hid hin; clear hin; have HWF := Lib.hid hwf; clear hwf; have HX := Lib.hid hx; clear hx
  go_enter Try.func30, Try.ntmps30
  go_wp2_with fail
  refine (l2Few_calls ds k n s x xa xc a cap ms (w.heap.size + 1) 2000 w _ hB HI.out HIN.out (by (repeat (first | with_reducible assumption | with_reducible exact Below.refl _ _ | with_reducible refine Below.drew ?_ | with_reducible refine belowDrewN ?_ _ | ((with_reducible refine Below.setCell ?_ ?_ _); rotate_left; focus (first | omega | (simp; done) | (simp; omega))) | ((with_reducible refine Below.alloc ?_ ?_ _); rotate_left; focus (first | omega | (simp; done) | (simp; omega)))))) (by omega) (by omega) (by omega) (by simp [go_sem]) (by simp [go_sem])).mono ?_
  rintro e w1 ⟨rfl, q', qf', ho1⟩
  obtain ⟨hc1, hf1⟩ := ocell ho1
  have hz1 := ho1.size
  simp only [World.size_alloc] at hz1 hc1
  have hb1 : Below w.heap.size w w1 := ho1.low (by (repeat (first | with_reducible assumption | with_reducible exact Below.refl _ _ | with_reducible refine Below.drew ?_ | with_reducible refine belowDrewN ?_ _ | ((with_reducible refine Below.setCell ?_ ?_ _); rotate_left; focus (first | omega | (simp; done) | (simp; omega))) | ((with_reducible refine Below.alloc ?_ ?_ _); rotate_left; focus (first | omega | (simp; done) | (simp; omega)))))) (by omega)
  have q0 : w1.cell? ⟨w.heap.size, 0, none⟩ = some (.int .i64 k) := by rw [hc1 _ _ (by omega) (by omega)]; simp [go_sem]
  have q1 : w1.cell? ⟨w.heap.size, 1, none⟩ = some (.int .i64 n) := by rw [hc1 _ _ (by omega) (by omega)]; simp [go_sem]
  have q2 : w1.cell? ⟨w.heap.size, 2, none⟩ = some (.string s) := by rw [hc1 _ _ (by omega) (by omega)]; simp [go_sem]
  have q3 : w1.cell? ⟨w.heap.size, 3, none⟩ = some (.slice xa x.length xc) := by rw [hc1 _ _ (by omega) (by omega)]; simp [go_sem]
  have q4 : w1.cell? ⟨w.heap.size, 4, none⟩ = some (.slice a ms.length cap) := by rw [hc1 _ _ (by omega) (by omega)]; simp [go_sem]
  clear hc1 hf1
  have HO1 := Lib.hid ho1; clear ho1
  by_cases hfew : ((1 + Syn.countL ds : Nat) : Int) ≤ 2000
  · have hpos : 0 ≤ few 2000 (1 + Syn.countL ds) := by rw [few_pos hfew]; omega
    go_wp2_with fail
    refine (l2Depth_calls ds k n s x xa xc a cap ms _ (by omega) HI.out (HIN.out.below hb1)).mono ?_
    rintro e w2 ⟨rfl, hb2⟩
    obtain ⟨hc2, hf2⟩ := bcell hb2; have hz2 := hb2.size; (try simp only [World.size_alloc, World.size_setCell, World.size_drew, sizeDrewN] at hz2 hc2 hf2)
    have q0' := (hc2 _ _ (by omega)).trans q0
    have q1' := (hc2 _ _ (by omega)).trans q1
    have q2' := (hc2 _ _ (by omega)).trans q2
    have q3' := (hc2 _ _ (by omega)).trans q3
    have q4' := (hc2 _ _ (by omega)).trans q4
    by_cases hdp : ((1 + Syn.depthL ds : Nat) : Int) ≤ 40
    · go_wp2_with fail
      refine (l2Nodes_calls ds k n s x xa xc a cap ms _ HWF.out HI.out (HX.out.below (by (repeat (first | with_reducible assumption | with_reducible exact Below.refl _ _ | with_reducible refine Below.drew ?_ | with_reducible refine belowDrewN ?_ _ | ((with_reducible refine Below.setCell ?_ ?_ _); rotate_left; focus (first | omega | (simp; done) | (simp; omega))) | ((with_reducible refine Below.alloc ?_ ?_ _); rotate_left; focus (first | omega | (simp; done) | (simp; omega))) | ((with_reducible refine Below.trans ?_ (Below.mono hb1 ?_)); rotate_left; focus (first | omega | (simp; done) | (simp; omega))) | ((with_reducible refine Below.trans ?_ (Below.mono hb2 ?_)); rotate_left; focus (first | omega | (simp; done) | (simp; omega))))))) (HIN.out.below (by (repeat (first | with_reducible assumption | with_reducible exact Below.refl _ _ | with_reducible refine Below.drew ?_ | with_reducible refine belowDrewN ?_ _ | ((with_reducible refine Below.setCell ?_ ?_ _); rotate_left; focus (first | omega | (simp; done) | (simp; omega))) | ((with_reducible refine Below.alloc ?_ ?_ _); rotate_left; focus (first | omega | (simp; done) | (simp; omega))) | ((with_reducible refine Below.trans ?_ (Below.mono hb1 ?_)); rotate_left; focus (first | omega | (simp; done) | (simp; omega))) | ((with_reducible refine Below.trans ?_ (Below.mono hb2 ?_)); rotate_left; focus (first | omega | (simp; done) | (simp; omega)))))))).mono ?_
      rintro e w3 ⟨rfl, hb3⟩
      obtain ⟨hc3, hf3⟩ := bcell hb3; have hz3 := hb3.size; (try simp only [World.size_alloc, World.size_setCell, World.size_drew, sizeDrewN] at hz3 hc3 hf3)
      have hv : (Syn.mk k n s x ds).okB = isSynB k n s x ds := by
        cases hq : (Syn.mk k n s x ds).okB with
        | true => exact (isSynB_yes ⟨by omega, by omega, Syn.okB_true.1 hq⟩).symm
        | false => exact (isSynB_no fun h => Syn.okB_false.1 hq h.2.2).symm
      go_wp2_with fail
      go_ret
      exact ⟨rfl, by (repeat (first | with_reducible assumption | with_reducible exact Below.refl _ _ | with_reducible refine Below.drew ?_ | with_reducible refine belowDrewN ?_ _ | ((with_reducible refine Below.setCell ?_ ?_ _); rotate_left; focus (first | omega | (simp; done) | (simp; omega))) | ((with_reducible refine Below.alloc ?_ ?_ _); rotate_left; focus (first | omega | (simp; done) | (simp; omega))) | ((with_reducible refine Below.trans ?_ (Below.mono hb1 ?_)); rotate_left; focus (first | omega | (simp; done) | (simp; omega))) | ((with_reducible refine Below.trans ?_ (Below.mono hb2 ?_)); rotate_left; focus (first | omega | (simp; done) | (simp; omega))) | ((with_reducible refine Below.trans ?_ (Below.mono hb3 ?_)); rotate_left; focus (first | omega | (simp; done) | (simp; omega)))))⟩
    · have hno := isSynB_no (k := k) (n := n) (s := s) (x := x) (ds := ds) fun h => hdp (by have := h.2.1; omega)
      have HNO := Lib.hid hno; clear hno
      go_wp2_with fail
      go_ret
      exact ⟨ret_b HNO.out.symm, by (repeat (first | with_reducible assumption | with_reducible exact Below.refl _ _ | with_reducible refine Below.drew ?_ | with_reducible refine belowDrewN ?_ _ | ((with_reducible refine Below.setCell ?_ ?_ _); rotate_left; focus (first | omega | (simp; done) | (simp; omega))) | ((with_reducible refine Below.alloc ?_ ?_ _); rotate_left; focus (first | omega | (simp; done) | (simp; omega))) | ((with_reducible refine Below.trans ?_ (Below.mono hb1 ?_)); rotate_left; focus (first | omega | (simp; done) | (simp; omega))) | ((with_reducible refine Below.trans ?_ (Below.mono hb2 ?_)); rotate_left; focus (first | omega | (simp; done) | (simp; omega)))))⟩
  · have hneg : ¬ 0 ≤ few 2000 (1 + Syn.countL ds) := by rw [few_neg hfew]; omega
    have hno := isSynB_no (k := k) (n := n) (s := s) (x := x) (ds := ds) fun h => hfew (by have := h.1; omega)
    have HNO := Lib.hid hno; clear hno
    go_wp2_with fail
    go_ret
    exact ⟨ret_b HNO.out.symm, by (repeat (first | with_reducible assumption | with_reducible exact Below.refl _ _ | with_reducible refine Below.drew ?_ | with_reducible refine belowDrewN ?_ _ | ((with_reducible refine Below.setCell ?_ ?_ _); rotate_left; focus (first | omega | (simp; done) | (simp; omega))) | ((with_reducible refine Below.alloc ?_ ?_ _); rotate_left; focus (first | omega | (simp; done) | (simp; omega))) | ((with_reducible refine Below.trans ?_ (Below.mono hb1 ?_)); rotate_left; focus (first | omega | (simp; done) | (simp; omega)))))⟩
/-- an identifier -/
noncomputable def isIdB (k n : Int) (s : ByteArray) (x : List Int) (ds : List Syn) : Bool := (k == 1) && isSynB k n s x ds
theorem sIsIdentifier_calls (k n : Int) (s : ByteArray) (x : List Int) (ds : List Syn) (xa : Option Addr) (xc : Nat) (a : Option Addr) (cap : Nat) (ms : List M) (w : World) (hwf : (Syn.mk k n s x ds).wf) (hB : Syn.countL ds ≤ 1000000000) (hi : Syn.IsL 27 ds ms) (hown : (SynOwn 27 xa xc x a cap ms).In w) :
    Calls Try.prog 8 #[.agg #[.int .i64 k, .int .i64 n, .string s, .slice xa x.length xc, .slice a ms.length cap]] w (Ret (.bool (isIdB k n s x ds)) w) := by
  have HI := Lib.hid hi; clear hi; have HOWN := Lib.hid hown; clear hown; have HWF := Lib.hid hwf; clear hwf
  by_cases hk : k = 1
  · have hk' : (k == 1) = true := by simp [hk]
    have hv : isIdB k n s x ds = isSynB k n s x ds := by unfold isIdB; rw [hk', Bool.true_and]
    have HK := Lib.hid hk; clear hk; have HV := Lib.hid hv; clear hv
    go_enter Try.func8, Try.ntmps8
    go_wp2_with fail
    refine (sIsSyntax_calls k n s x ds xa xc a cap ms _ HWF.out hB HI.out (HOWN.out.below (by (repeat (first | with_reducible assumption | with_reducible exact Below.refl _ _ | with_reducible refine Below.drew ?_ | with_reducible refine belowDrewN ?_ _ | ((with_reducible refine Below.setCell ?_ ?_ _); rotate_left; focus (first | omega | (simp; done) | (simp; omega))) | ((with_reducible refine Below.alloc ?_ ?_ _); rotate_left; focus (first | omega | (simp; done) | (simp; omega)))))))).mono ?_
    rintro e w1 ⟨rfl, hb1⟩
    go_wp2_with fail
    go_ret
    exact ⟨ret_b HV.out.symm, by (repeat (first | with_reducible assumption | with_reducible exact Below.refl _ _ | with_reducible refine Below.drew ?_ | with_reducible refine belowDrewN ?_ _ | ((with_reducible refine Below.setCell ?_ ?_ _); rotate_left; focus (first | omega | (simp; done) | (simp; omega))) | ((with_reducible refine Below.alloc ?_ ?_ _); rotate_left; focus (first | omega | (simp; done) | (simp; omega))) | ((with_reducible refine Below.trans ?_ (Below.mono hb1 ?_)); rotate_left; focus (first | omega | (simp; done) | (simp; omega)))))⟩
  · have hk' : (k == 1) = false := by simp [hk]
    have hv : isIdB k n s x ds = false := by unfold isIdB; rw [hk', Bool.false_and]
    have HK := Lib.hid hk; clear hk; have HV := Lib.hid hv; clear hv
    go_enter Try.func8, Try.ntmps8
    go_wp2_with fail
    go_ret
    exact ⟨ret_b HV.out.symm, by (repeat (first | with_reducible assumption | with_reducible exact Below.refl _ _ | with_reducible refine Below.drew ?_ | with_reducible refine belowDrewN ?_ _ | ((with_reducible refine Below.setCell ?_ ?_ _); rotate_left; focus (first | omega | (simp; done) | (simp; omega))) | ((with_reducible refine Below.alloc ?_ ?_ _); rotate_left; focus (first | omega | (simp; done) | (simp; omega)))))⟩
theorem iIsIdentifier_calls (k n : Int) (s : ByteArray) (x : List Int) (ds : List Syn) (xa : Option Addr) (xc : Nat) (a : Option Addr) (cap : Nat) (ms : List M) (w : World) (hwf : (Syn.mk k n s x ds).wf) (hB : Syn.countL ds ≤ 1000000000) (hi : Syn.IsL 27 ds ms) (hown : (SynOwn 27 xa xc x a cap ms).In w) :
    Calls Try.prog 45 #[.agg #[.int .i64 k, .int .i64 n, .string s, .slice xa x.length xc, .slice a ms.length cap]] w (Ret (.bool (isIdB k n s x ds)) w) := by
  have HI := Lib.hid hi; clear hi; have HOWN := Lib.hid hown; clear hown; have HWF := Lib.hid hwf; clear hwf
  by_cases hk : k = 1
  · have hk' : (k == 1) = true := by simp [hk]
    have hv : isIdB k n s x ds = isSynB k n s x ds := by unfold isIdB; rw [hk', Bool.true_and]
    have HK := Lib.hid hk; clear hk; have HV := Lib.hid hv; clear hv
    go_enter Try.func45, Try.ntmps45
    go_wp2_with fail
    refine (iIsSyntax_calls k n s x ds xa xc a cap ms _ HWF.out hB HI.out (HOWN.out.below (by (repeat (first | with_reducible assumption | with_reducible exact Below.refl _ _ | with_reducible refine Below.drew ?_ | with_reducible refine belowDrewN ?_ _ | ((with_reducible refine Below.setCell ?_ ?_ _); rotate_left; focus (first | omega | (simp; done) | (simp; omega))) | ((with_reducible refine Below.alloc ?_ ?_ _); rotate_left; focus (first | omega | (simp; done) | (simp; omega)))))))).mono ?_
    rintro e w1 ⟨rfl, hb1⟩
    go_wp2_with fail
    go_ret
    exact ⟨ret_b HV.out.symm, by (repeat (first | with_reducible assumption | with_reducible exact Below.refl _ _ | with_reducible refine Below.drew ?_ | with_reducible refine belowDrewN ?_ _ | ((with_reducible refine Below.setCell ?_ ?_ _); rotate_left; focus (first | omega | (simp; done) | (simp; omega))) | ((with_reducible refine Below.alloc ?_ ?_ _); rotate_left; focus (first | omega | (simp; done) | (simp; omega))) | ((with_reducible refine Below.trans ?_ (Below.mono hb1 ?_)); rotate_left; focus (first | omega | (simp; done) | (simp; omega)))))⟩
  · have hk' : (k == 1) = false := by simp [hk]
    have hv : isIdB k n s x ds = false := by unfold isIdB; rw [hk', Bool.false_and]
    have HK := Lib.hid hk; clear hk; have HV := Lib.hid hv; clear hv
    go_enter Try.func45, Try.ntmps45
    go_wp2_with fail
    go_ret
    exact ⟨ret_b HV.out.symm, by (repeat (first | with_reducible assumption | with_reducible exact Below.refl _ _ | with_reducible refine Below.drew ?_ | with_reducible refine belowDrewN ?_ _ | ((with_reducible refine Below.setCell ?_ ?_ _); rotate_left; focus (first | omega | (simp; done) | (simp; omega))) | ((with_reducible refine Below.alloc ?_ ?_ _); rotate_left; focus (first | omega | (simp; done) | (simp; omega)))))⟩
def dotsS : ByteArray := ⟨#[46, 46, 46]⟩
open Classical in
noncomputable def isDotsB (k : Int) (s : ByteArray) : Bool := (k == 1) && decide (s = dotsS)
end Go.Proofs.Ytghbnehocggnnaa

/-
  Scopes mapped, in plain terms. No condition. (printed by wip/tools/mkms.py)
-/
set_option linter.unusedVariables false
set_option linter.unusedSimpArgs false
set_option maxRecDepth 100000
namespace Go.Proofs.Ytghbnehocggnnaa
open Go.RowKit

/-- Owned data whose blocks lie in lo..hi and are not g. -/
structure M.Free (m : M) (lo hi g : Nat) (w : World) : Prop where
  mine : m.Mine w lo
  lt : ∀ b ∈ m.blocks, b < hi ∧ b ≠ g
  hi : hi ≤ w.heap.size
theorem M.Free.keep {m : M} {lo hi g : Nat} {w w' : World} (h : m.Free lo hi g w) (hs : hi ≤ w'.heap.size) (hk : ∀ b, lo ≤ b → b < hi → b ≠ g → w'.heap[b]? = w.heap[b]?) : m.Free lo hi g w' :=
  ⟨⟨M.Own.frame m h.mine.own fun b hb => hk b (h.mine.lt b hb).1 (h.lt b hb).1 (h.lt b hb).2, h.mine.dup⟩, h.lt, hs⟩
def mapX (F : List Int → List Int) (k : Int) (x : List Int) : List Int := if k = 1 then F x else x
theorem mapX_one (F : List Int → List Int) (x : List Int) : mapX F 1 x = F x := by simp [mapX]
theorem mapX_other {k : Int} (h : ¬ k = 1) (F : List Int → List Int) (x : List Int) : mapX F k x = x := by simp [mapX, h]
mutual
def mapSyn (F : List Int → List Int) : Syn → Syn
  | .mk k n s x ds => .mk k n s (mapX F k x) (mapSynL F ds)
def mapSynL (F : List Int → List Int) : List Syn → List Syn
  | [] => []
  | d :: r => mapSyn F d :: mapSynL F r
end
theorem mapSynL_append (F : List Int → List Int) : ∀ (ds es : List Syn), mapSynL F (ds ++ es) = mapSynL F ds ++ mapSynL F es
  | [], es => by simp [mapSynL]
  | d :: r, es => by simp only [List.cons_append, mapSynL]; rw [mapSynL_append F r es]
theorem mapSynL_take {F : List Int → List Int} {ds : List Syn} {j : Nat} {k n : Int} {s : ByteArray} {x : List Int} {es : List Syn} (h : ds[j]? = some (.mk k n s x es)) : mapSynL F (ds.take (j + 1)) = mapSynL F (ds.take j) ++ [.mk k n s (mapX F k x) (mapSynL F es)] := by
  rw [take_snoc h, mapSynL_append]; simp [mapSynL, mapSyn]
theorem Syn.ok_items {k n : Int} {s : ByteArray} {x : List Int} {es : List Syn} (h : (Syn.mk k n s x es).ok) : Syn.okL es := h.2.2
theorem Syn.ok_set {k n : Int} {s : ByteArray} {x : List Int} {es : List Syn} (h : (Syn.mk k n s x es).ok) : ssB x = true := by
  have := h.2.1; simp only [scB, Bool.and_eq_true] at this; exact this.1
theorem mapX_length {F : List Int → List Int} (hF : ∀ x, (F x).length ≤ 2 * x.length + 1) (k : Int) (x : List Int) : (mapX F k x).length ≤ 2 * x.length + 1 := by
  unfold mapX; split
  · exact hF x
  · omega
theorem mapSynL_places {F : List Int → List Int} (hF : ∀ x, (F x).length ≤ 2 * x.length + 1) (ds : List Syn) : Syn.placesL (mapSynL F ds) ≤ 2 * Syn.placesL ds := by
  refine Syn.inductL (P := fun ds => Syn.placesL (mapSynL F ds) ≤ 2 * Syn.placesL ds) (fun ds ih => ?_) ds
  induction ds with
  | nil => simp [Syn.placesL, mapSynL]
  | cons d r ihr =>
    obtain ⟨k, n, s, x, es⟩ := d
    have h1 := ih k n s x es (List.mem_cons_self ..)
    have h2 := ihr fun k n s x es hm => ih k n s x es (List.mem_cons_of_mem _ hm)
    have h3 := mapX_length hF k x
    simp only [Syn.placesL, Syn.places, mapSynL, mapSyn] at *
    omega
theorem mapX_id (k : Int) (x : List Int) : mapX id k x = x := by simp [mapX]
theorem mapSynL_id (ds : List Syn) : mapSynL id ds = ds := by
  refine Syn.inductL (P := fun ds => mapSynL id ds = ds) (fun ds ih => ?_) ds
  induction ds with
  | nil => rfl
  | cons d r ihr =>
    obtain ⟨k, n, s, x, es⟩ := d
    have h1 := ih k n s x es (List.mem_cons_self ..)
    have h2 := ihr fun k n s x es hm => ih k n s x es (List.mem_cons_of_mem _ hm)
    simp only [mapSynL, mapSyn, mapX_id, h1, h2]
def flipTo (m : Int) (l : List Int) : List Int := flipL l m
def flipSo (m : Int) (l : List Int) : List Int := flipS l m
/-- two ways to map scopes that agree on sets of scopes agree on a right piece of syntax -/
theorem mapSynL_ok {F G : List Int → List Int} (hFG : ∀ x, ssB x = true → F x = G x) (ds : List Syn) (h : Syn.okL ds) : mapSynL F ds = mapSynL G ds := by
  revert h
  refine Syn.inductL (P := fun ds => Syn.okL ds → mapSynL F ds = mapSynL G ds) (fun ds ih => ?_) ds
  induction ds with
  | nil => intro _; rfl
  | cons d r ihr =>
    obtain ⟨k, n, s, x, es⟩ := d
    intro h
    have h1 := ih k n s x es (List.mem_cons_self ..) (Syn.ok_items h.1)
    have h2 := ihr (fun k n s x es hm => ih k n s x es (List.mem_cons_of_mem _ hm)) h.2
    have h3 := hFG x (Syn.ok_set h.1)
    simp only [mapSynL, mapSyn, mapX, h1, h2, h3]
/-- what changing the scopes of all identifiers hands back, if it may -/
noncomputable def mapGx (b : Bool) (F : List Int → List Int) (k : Int) (x : List Int) : List Int := if b = true then mapX F k x else x
noncomputable def mapGd (b : Bool) (F : List Int → List Int) (ds : List Syn) : List Syn := if b = true then mapSynL F ds else ds
theorem mapGx_yes (F : List Int → List Int) (k : Int) (x : List Int) : mapGx true F k x = mapX F k x := rfl
theorem mapGx_no (F : List Int → List Int) (k : Int) (x : List Int) : mapGx false F k x = x := rfl
theorem mapGd_yes (F : List Int → List Int) (ds : List Syn) : mapGd true F ds = mapSynL F ds := rfl
theorem mapGd_no (F : List Int → List Int) (ds : List Syn) : mapGd false F ds = ds := rfl
theorem mapG_places {F : List Int → List Int} (hF : ∀ x, (F x).length ≤ 2 * x.length + 1) (b : Bool) (k : Int) (x : List Int) (ds : List Syn) : (mapGx b F k x).length + Syn.placesL (mapGd b F ds) ≤ 2 * x.length + 1 + 2 * Syn.placesL ds := by
  cases b with
  | false => rw [mapGx_no, mapGd_no]; omega
  | true => rw [mapGx_yes, mapGd_yes]; have := mapX_length hF k x; have := mapSynL_places hF ds; omega
end Go.Proofs.Ytghbnehocggnnaa

/-
  Walks: the datum of a piece of syntax. No condition. (printed by wip/tools/mkt1.py)
-/
set_option linter.unusedVariables false
set_option linter.unusedSimpArgs false
set_option maxRecDepth 100000
namespace Go.Proofs.Ytghbnehocggnnaa
open Go.RowKit

mutual
def datOf : Syn → Dat
  | .mk k n s _ ds => .mk k n s (datOfL ds)
def datOfL : List Syn → List Dat
  | [] => []
  | d :: r => datOf d :: datOfL r
end
theorem datOfL_append : ∀ (ds es : List Syn), datOfL (ds ++ es) = datOfL ds ++ datOfL es
  | [], es => by simp [datOfL]
  | d :: r, es => by simp only [List.cons_append, datOfL]; rw [datOfL_append r es]
theorem datOfL_take {ds : List Syn} {j : Nat} {k n : Int} {s : ByteArray} {x : List Int} {es : List Syn} (h : ds[j]? = some (.mk k n s x es)) : datOfL (ds.take (j + 1)) = datOfL (ds.take j) ++ [.mk k n s (datOfL es)] := by
  rw [take_snoc h, datOfL_append]; simp [datOfL, datOf]
theorem datOfL_count (ds : List Syn) : Dat.countL (datOfL ds) = Syn.countL ds := by
  refine Syn.inductL (P := fun ds => Dat.countL (datOfL ds) = Syn.countL ds) (fun ds ih => ?_) ds
  induction ds with
  | nil => simp [Syn.countL, datOfL, Dat.countL]
  | cons d r ihr =>
    obtain ⟨k, n, s, x, es⟩ := d
    have h1 := ih k n s x es (List.mem_cons_self ..)
    have h2 := ihr fun k n s x es hm => ih k n s x es (List.mem_cons_of_mem _ hm)
    simp only [Syn.countL, Syn.count, datOfL, datOf, Dat.countL, Dat.count] at *
    omega
/-- what DatumOf hands back -/
noncomputable def datG (k n : Int) (s : ByteArray) (x : List Int) (ds : List Syn) : Dat := if isSynB k n s x ds = true then .mk k n s (datOfL ds) else .mk 0 0 ⟨#[]⟩ []
theorem datG_yes {k n : Int} {s : ByteArray} {x : List Int} {ds : List Syn} (h : isSynB k n s x ds = true) : datG k n s x ds = .mk k n s (datOfL ds) := by simp [datG, h]
theorem datG_no {k n : Int} {s : ByteArray} {x : List Int} {ds : List Syn} (h : isSynB k n s x ds = false) : datG k n s x ds = .mk 0 0 ⟨#[]⟩ [] := by simp [datG, h]
theorem datG_count (k n : Int) (s : ByteArray) (x : List Int) (ds : List Syn) : Dat.countL (datG k n s x ds).ds ≤ Syn.countL ds := by
  unfold datG; split
  · simp only [Dat.ds_mk]; rw [datOfL_count]; omega
  · simp [Dat.countL]
def sDoSs (ds : List Syn) : Prop := ∀ (k n : Int) (s : ByteArray) (x : List Int) (xa : Option Addr) (xc : Nat) (a : Option Addr) (cap : Nat) (ms : List M) (w : World), Syn.countL ds ≤ 1000000000 → Syn.IsL 27 ds ms → (M.sl a cap 5 27 ms).In w →
    Calls Try.prog 59 #[.agg #[.int .i64 k, .int .i64 n, .string s, .slice xa x.length xc, .slice a ms.length cap]] w (RetDat 52 (.mk k n s (datOfL ds)) w)
set_option maxHeartbeats 2000000 in
theorem l2Datum_calls : ∀ ds, sDoSs ds := by
  refine Syn.inductL fun ds ih => ?_
  intro k n s x xa xc a cap ms w hB hi hin
  have hl := hi.length
  have hcap := hin.len
  have hdl := Syn.length_le ds
  have IH := Lib.hid ih; clear ih; have HIN := Lib.hid hin; clear hin; have HI := Lib.hid hi; clear hi; have HL := Lib.hid hl; clear hl
  go_enter Try.func59, Try.ntmps59
  go_wp2_with fail
  go_loopw [16] (fun i wr => ∃ (j : Nat) (a' : Option Addr) (cap' : Nat) (ms' : List M), j ≤ ms.length ∧ i = .int .i64 j ∧ ms'.length = j ∧ Dat.IsL 52 (datOfL (ds.take j)) ms' ∧ (M.sl a' cap' 4 52 ms').Mine wr (w.heap.size + 1 + 1 + 1) ∧
      DBox (w.heap.size + 1 + 1) k n s (.slice a' ms'.length cap') wr ∧ DBox (w.heap.size + 1) 0 0 ⟨#[]⟩ (.slice none 0 0) wr ∧ Below w.heap.size w wr ∧ w.heap.size + 1 + 1 + 1 ≤ wr.heap.size) (fun i _ => ms.length - (intOf i).toNat)
  case atStart => exact ⟨0, none, 0, [], Nat.zero_le _, rfl, rfl, by simp [datOfL, Dat.IsL], M.Mine.nil _ _ _ _ (by decide), by constructor <;> simp [go_sem], by constructor <;> simp [go_sem], by (repeat (first | with_reducible assumption | with_reducible exact Below.refl _ _ | with_reducible refine Below.drew ?_ | with_reducible refine belowDrewN ?_ _ | ((with_reducible refine Below.setCell ?_ ?_ _); rotate_left; focus (first | omega | (simp; done) | (simp; omega))) | ((with_reducible refine Below.alloc ?_ ?_ _); rotate_left; focus (first | omega | (simp; done) | (simp; omega))))), by simp⟩
  case round =>
    obtain ⟨j, a', cap', ms', hj, rfl, hj', hi', hm', hq, hr, hb, hsz⟩ := hrel
    obtain ⟨q0, q1, q2, q3, e0, e1, e2, e3⟩ := hq
    obtain ⟨r0, r1, r2, r3, g0, g1, g2, g3⟩ := hr
    have hq : DBox (w.heap.size + 1 + 1) k n s (.slice a' ms'.length cap') wr := ⟨q0, q1, q2, q3, e0, e1, e2, e3⟩
    have hr : DBox (w.heap.size + 1) 0 0 ⟨#[]⟩ (.slice none 0 0) wr := ⟨r0, r1, r2, r3, g0, g1, g2, g3⟩
    have p3 := hq.lt
    have p2 := hr.lt
    by_cases hlt : j < ms.length
    · obtain ⟨b, off, k1, n1, s1, x1, ds1, xa1, xc1, a1, cap1, ms1, rfl, hd, hi1, hx1, hin1, c0, c1, c2, c3, c4⟩ := Syn.elem (HIN.out.below hb) HI.out j hlt
      obtain ⟨ht, hle⟩ := Syn.countL_le ds j _ hd
      simp only [Syn.count] at hle
      clear ht
      have HD := Lib.hid hd; clear hd; have HI1 := Lib.hid hi1; clear hi1; have HX1 := Lib.hid hx1; clear hx1; have HIN1 := Lib.hid hin1; clear hin1; have HJ' := Lib.hid hj'; clear hj'; have HI' := Lib.hid hi'; clear hi'; have HM' := Lib.hid hm'; clear hm'
      have HQ := Lib.hid hq; clear hq
      have HR := Lib.hid hr; clear hr
      go_wp2_with fail
      go_region_law (first
        | (go_simp; go_at_call 59; refine (IH.out k1 n1 s1 x1 ds1 (List.mem_of_getElem? HD.out) k1 n1 s1 x1 xa1 xc1 a1 cap1 ms1 _ (by omega) HI1.out (HIN1.out.below (by (repeat (first | with_reducible assumption | with_reducible exact Below.refl _ _ | with_reducible refine Below.drew ?_ | with_reducible refine belowDrewN ?_ _ | ((with_reducible refine Below.setCell ?_ ?_ _); rotate_left; focus (first | omega | (simp; done) | (simp; omega))) | ((with_reducible refine Below.alloc ?_ ?_ _); rotate_left; focus (first | omega | (simp; done) | (simp; omega)))))))).mono ?_; rintro e w1 ⟨a2, cap2, ms2, rfl, hi2, hm2, hb2⟩; obtain ⟨hc2, hf2⟩ := bcell hb2; have hz2 := hb2.size; (try simp only [World.size_alloc, World.size_setCell, World.size_drew, sizeDrewN] at hz2 hc2 hf2); have q3c : w1.cell? ⟨w.heap.size + 1 + 1, 3, none⟩ = some (.slice a' ms'.length cap') := (by simp (disch := omega) [hc2, q3, go_sem]); have p3c : w.heap.size + 1 + 1 < w1.heap.size := (by omega); (try simp only [Dat.k_mk, Dat.n_mk, Dat.s_mk, Dat.ds_mk, List.length_nil]))
        | (refine step_push (wr := wr) rfl _ _ 50 rfl 52 _ 4 56 Try.underlying50 infoDat rfl (by decide) (w.heap.size + 1 + 1 + 1) a' cap' ms' rfl HM'.out hsz (by (repeat (first | with_reducible assumption | with_reducible exact Below.refl _ _ | with_reducible refine Below.drew ?_ | with_reducible refine belowDrewN ?_ _ | ((with_reducible refine Below.setCell ?_ ?_ _); rotate_left; focus (first | omega | (simp; done) | (simp; omega))) | ((with_reducible refine Below.alloc ?_ ?_ _); rotate_left; focus (first | omega | (simp; done) | (simp; omega))) | ((with_reducible refine Below.trans ?_ (Below.mono hb2 ?_)); rotate_left; focus (first | omega | (simp; done) | (simp; omega)))))) _ (.ag [.c (.int .i64 k1), .c (.int .i64 n1), .c (.string s1), .sl a2 cap2 4 52 ms2]) (by simp [M.cells, M.cellsL, intM_length]) rfl _ (Dat.mine hm2) (by simp) rfl (by have := HJ'.out; unfold maxLen; omega) (by have := HJ'.out; have := HL.out; omega) ?_; intro a3 cap3 w3 hm3 hb3 hz3 hfr3; have q3' : w3.cell? ⟨w.heap.size + 1 + 1, 3, none⟩ = some (.slice a' ms'.length cap') := (by rw [hb3.cell (by first | (simp; done) | (simp; omega))]; simp (disch := omega) [hc2, q3, go_sem]); have qf' : w3.frozen? ⟨w.heap.size + 1 + 1, 3, none⟩ = false := (by rw [hb3.frozen (by first | (simp; done) | (simp; omega))]; simp (disch := omega) [hf2, e3, go_sem])))
      all_goals
        have hbA : Below wr.heap.size wr w1 := by (repeat (first | with_reducible assumption | with_reducible exact Below.refl _ _ | with_reducible refine Below.drew ?_ | with_reducible refine belowDrewN ?_ _ | ((with_reducible refine Below.setCell ?_ ?_ _); rotate_left; focus (first | omega | (simp; done) | (simp; omega))) | ((with_reducible refine Below.alloc ?_ ?_ _); rotate_left; focus (first | omega | (simp; done) | (simp; omega))) | ((with_reducible refine Below.trans ?_ (Below.mono hb2 ?_)); rotate_left; focus (first | omega | (simp; done) | (simp; omega)))))
        have hq3 := (HQ.out.below hbA p3).below hb3 (by omega)
        have hr3 := (HR.out.below hbA p2).below hb3 (by omega)
        (try simp only [Dat.k_mk, Dat.n_mk, Dat.s_mk, Dat.ds_mk] at hi2)
        have hfin : Dat.IsL 52 (datOfL (ds.take (j + 1))) (ms' ++ [.ag [.c (.int .i64 k1), .c (.int .i64 n1), .c (.string s1), .sl a2 cap2 4 52 ms2]]) := by
          rw [datOfL_take HD.out]; exact HI'.out.snoc ⟨_, _, _, rfl, hi2⟩
        have hjj := HJ'.out
        have HFIN := Lib.hid hfin; clear hfin; have HM3 := Lib.hid hm3; clear hm3; have HI2 := Lib.hid hi2; clear hi2; have HM2 := Lib.hid hm2; clear hm2; have HQ3 := Lib.hid hq3; clear hq3; have HR3 := Lib.hid hr3; clear hr3; have HBA := Lib.hid hbA; clear hbA
        go_wp2_with fail
        go_roundw
        case rel =>
          refine ⟨j + 1, a3, cap3, ms' ++ [.ag [.c (.int .i64 k1), .c (.int .i64 n1), .c (.string s1), .sl a2 cap2 4 52 ms2]], by omega, by go_num, by simp [hjj], HFIN.out, ?_, ?_, ?_, ?_, ?_⟩
          · exact M.Mine.keep HM3.out (fun b hb1 hb2 => by simp (disch := (first | omega | (simp; omega))) only [heapSet])
          · have := HQ3.out.set3 (.slice a3 (ms'.length + 1) cap3); simpa [hjj] using this
          · exact HR3.out.far _ (by first | (simp; done) | (simp; omega))
          · (repeat (first | with_reducible assumption | with_reducible exact Below.refl _ _ | with_reducible refine Below.drew ?_ | with_reducible refine belowDrewN ?_ _ | ((with_reducible refine Below.setCell ?_ ?_ _); rotate_left; focus (first | omega | (simp; done) | (simp; omega))) | ((with_reducible refine Below.alloc ?_ ?_ _); rotate_left; focus (first | omega | (simp; done) | (simp; omega))) | ((with_reducible refine Below.trans ?_ (Below.mono hb2 ?_)); rotate_left; focus (first | omega | (simp; done) | (simp; omega))) | ((with_reducible refine Below.trans ?_ (Below.mono hb3 ?_)); rotate_left; focus (first | omega | (simp; done) | (simp; omega)))))
          · simp; omega
        case measure => simp [intOf]; omega
    · have HJ' := Lib.hid hj'; clear hj'
      have HQ := Lib.hid hq; clear hq
      have HR := Lib.hid hr; clear hr
      go_wp2_with fail
      refine bodyPost_ret (v := .agg #[.int .i64 k, .int .i64 n, .string s, .slice a' ms'.length cap']) (by simp [results, Try.results59, go_sem, q0, q1, q2, q3, r0, r1, r2, r3, HJ'.out]) rfl ?_
      have hk2 : j = ms.length := by omega
      subst hk2
      refine ⟨a', cap', ms', rfl, ?_, ?_, ?_⟩
      · rw [HL.out, List.take_length] at hi'
        exact hi'
      · (exact M.Mine.mono (M.Mine.keep hm' (fun b hb1 hb2 => by (try simp at hb1); simp (disch := (first | omega | (simp; omega))) only [heapSet, heapNew, heapDrew, heapDrewN])) (by first | omega | (simp; done) | (simp; omega)))
      · (repeat (first | with_reducible assumption | with_reducible exact Below.refl _ _ | with_reducible refine Below.drew ?_ | with_reducible refine belowDrewN ?_ _ | ((with_reducible refine Below.setCell ?_ ?_ _); rotate_left; focus (first | omega | (simp; done) | (simp; omega))) | ((with_reducible refine Below.alloc ?_ ?_ _); rotate_left; focus (first | omega | (simp; done) | (simp; omega))) | ((with_reducible refine Below.trans ?_ (Below.mono hb ?_)); rotate_left; focus (first | omega | (simp; done) | (simp; omega)))))
def iDoSs (ds : List Syn) : Prop := ∀ (k n : Int) (s : ByteArray) (x : List Int) (xa : Option Addr) (xc : Nat) (a : Option Addr) (cap : Nat) (ms : List M) (w : World), Syn.countL ds ≤ 1000000000 → Syn.IsL 27 ds ms → (M.sl a cap 5 27 ms).In w →
    Calls Try.prog 58 #[.agg #[.int .i64 k, .int .i64 n, .string s, .slice xa x.length xc, .slice a ms.length cap]] w (RetDat 52 (.mk k n s (datOfL ds)) w)
set_option maxHeartbeats 2000000 in
theorem iToDatum_calls : ∀ ds, iDoSs ds := by
  refine Syn.inductL fun ds ih => ?_
  intro k n s x xa xc a cap ms w hB hi hin
  have hl := hi.length
  have hcap := hin.len
  have hdl := Syn.length_le ds
  have IH := Lib.hid ih; clear ih; have HIN := Lib.hid hin; clear hin; have HI := Lib.hid hi; clear hi; have HL := Lib.hid hl; clear hl
  go_enter Try.func58, Try.ntmps58
  go_wp2_with fail
  go_loopw [16] (fun i wr => ∃ (j : Nat) (a' : Option Addr) (cap' : Nat) (ms' : List M), j ≤ ms.length ∧ i = .int .i64 j ∧ ms'.length = j ∧ Dat.IsL 52 (datOfL (ds.take j)) ms' ∧ (M.sl a' cap' 4 52 ms').Mine wr (w.heap.size + 1 + 1 + 1) ∧
      DBox (w.heap.size + 1 + 1) k n s (.slice a' ms'.length cap') wr ∧ DBox (w.heap.size + 1) 0 0 ⟨#[]⟩ (.slice none 0 0) wr ∧ Below w.heap.size w wr ∧ w.heap.size + 1 + 1 + 1 ≤ wr.heap.size) (fun i _ => ms.length - (intOf i).toNat)
  case atStart => exact ⟨0, none, 0, [], Nat.zero_le _, rfl, rfl, by simp [datOfL, Dat.IsL], M.Mine.nil _ _ _ _ (by decide), by constructor <;> simp [go_sem], by constructor <;> simp [go_sem], by (repeat (first | with_reducible assumption | with_reducible exact Below.refl _ _ | with_reducible refine Below.drew ?_ | with_reducible refine belowDrewN ?_ _ | ((with_reducible refine Below.setCell ?_ ?_ _); rotate_left; focus (first | omega | (simp; done) | (simp; omega))) | ((with_reducible refine Below.alloc ?_ ?_ _); rotate_left; focus (first | omega | (simp; done) | (simp; omega))))), by simp⟩
  case round =>
    obtain ⟨j, a', cap', ms', hj, rfl, hj', hi', hm', hq, hr, hb, hsz⟩ := hrel
    obtain ⟨q0, q1, q2, q3, e0, e1, e2, e3⟩ := hq
    obtain ⟨r0, r1, r2, r3, g0, g1, g2, g3⟩ := hr
    have hq : DBox (w.heap.size + 1 + 1) k n s (.slice a' ms'.length cap') wr := ⟨q0, q1, q2, q3, e0, e1, e2, e3⟩
    have hr : DBox (w.heap.size + 1) 0 0 ⟨#[]⟩ (.slice none 0 0) wr := ⟨r0, r1, r2, r3, g0, g1, g2, g3⟩
    have p3 := hq.lt
    have p2 := hr.lt
    by_cases hlt : j < ms.length
    · obtain ⟨b, off, k1, n1, s1, x1, ds1, xa1, xc1, a1, cap1, ms1, rfl, hd, hi1, hx1, hin1, c0, c1, c2, c3, c4⟩ := Syn.elem (HIN.out.below hb) HI.out j hlt
      obtain ⟨ht, hle⟩ := Syn.countL_le ds j _ hd
      simp only [Syn.count] at hle
      clear ht
      have HD := Lib.hid hd; clear hd; have HI1 := Lib.hid hi1; clear hi1; have HX1 := Lib.hid hx1; clear hx1; have HIN1 := Lib.hid hin1; clear hin1; have HJ' := Lib.hid hj'; clear hj'; have HI' := Lib.hid hi'; clear hi'; have HM' := Lib.hid hm'; clear hm'
      have HQ := Lib.hid hq; clear hq
      have HR := Lib.hid hr; clear hr
      go_wp2_with fail
      go_region_law (first
        | (go_simp; go_at_call 58; refine (IH.out k1 n1 s1 x1 ds1 (List.mem_of_getElem? HD.out) k1 n1 s1 x1 xa1 xc1 a1 cap1 ms1 _ (by omega) HI1.out (HIN1.out.below (by (repeat (first | with_reducible assumption | with_reducible exact Below.refl _ _ | with_reducible refine Below.drew ?_ | with_reducible refine belowDrewN ?_ _ | ((with_reducible refine Below.setCell ?_ ?_ _); rotate_left; focus (first | omega | (simp; done) | (simp; omega))) | ((with_reducible refine Below.alloc ?_ ?_ _); rotate_left; focus (first | omega | (simp; done) | (simp; omega)))))))).mono ?_; rintro e w1 ⟨a2, cap2, ms2, rfl, hi2, hm2, hb2⟩; obtain ⟨hc2, hf2⟩ := bcell hb2; have hz2 := hb2.size; (try simp only [World.size_alloc, World.size_setCell, World.size_drew, sizeDrewN] at hz2 hc2 hf2); have q3c : w1.cell? ⟨w.heap.size + 1 + 1, 3, none⟩ = some (.slice a' ms'.length cap') := (by simp (disch := omega) [hc2, q3, go_sem]); have p3c : w.heap.size + 1 + 1 < w1.heap.size := (by omega); (try simp only [Dat.k_mk, Dat.n_mk, Dat.s_mk, Dat.ds_mk, List.length_nil]))
        | (refine step_push (wr := wr) rfl _ _ 50 rfl 52 _ 4 56 Try.underlying50 infoDat rfl (by decide) (w.heap.size + 1 + 1 + 1) a' cap' ms' rfl HM'.out hsz (by (repeat (first | with_reducible assumption | with_reducible exact Below.refl _ _ | with_reducible refine Below.drew ?_ | with_reducible refine belowDrewN ?_ _ | ((with_reducible refine Below.setCell ?_ ?_ _); rotate_left; focus (first | omega | (simp; done) | (simp; omega))) | ((with_reducible refine Below.alloc ?_ ?_ _); rotate_left; focus (first | omega | (simp; done) | (simp; omega))) | ((with_reducible refine Below.trans ?_ (Below.mono hb2 ?_)); rotate_left; focus (first | omega | (simp; done) | (simp; omega)))))) _ (.ag [.c (.int .i64 k1), .c (.int .i64 n1), .c (.string s1), .sl a2 cap2 4 52 ms2]) (by simp [M.cells, M.cellsL, intM_length]) rfl _ (Dat.mine hm2) (by simp) rfl (by have := HJ'.out; unfold maxLen; omega) (by have := HJ'.out; have := HL.out; omega) ?_; intro a3 cap3 w3 hm3 hb3 hz3 hfr3; have q3' : w3.cell? ⟨w.heap.size + 1 + 1, 3, none⟩ = some (.slice a' ms'.length cap') := (by rw [hb3.cell (by first | (simp; done) | (simp; omega))]; simp (disch := omega) [hc2, q3, go_sem]); have qf' : w3.frozen? ⟨w.heap.size + 1 + 1, 3, none⟩ = false := (by rw [hb3.frozen (by first | (simp; done) | (simp; omega))]; simp (disch := omega) [hf2, e3, go_sem])))
      all_goals
        have hbA : Below wr.heap.size wr w1 := by (repeat (first | with_reducible assumption | with_reducible exact Below.refl _ _ | with_reducible refine Below.drew ?_ | with_reducible refine belowDrewN ?_ _ | ((with_reducible refine Below.setCell ?_ ?_ _); rotate_left; focus (first | omega | (simp; done) | (simp; omega))) | ((with_reducible refine Below.alloc ?_ ?_ _); rotate_left; focus (first | omega | (simp; done) | (simp; omega))) | ((with_reducible refine Below.trans ?_ (Below.mono hb2 ?_)); rotate_left; focus (first | omega | (simp; done) | (simp; omega)))))
        have hq3 := (HQ.out.below hbA p3).below hb3 (by omega)
        have hr3 := (HR.out.below hbA p2).below hb3 (by omega)
        (try simp only [Dat.k_mk, Dat.n_mk, Dat.s_mk, Dat.ds_mk] at hi2)
        have hfin : Dat.IsL 52 (datOfL (ds.take (j + 1))) (ms' ++ [.ag [.c (.int .i64 k1), .c (.int .i64 n1), .c (.string s1), .sl a2 cap2 4 52 ms2]]) := by
          rw [datOfL_take HD.out]; exact HI'.out.snoc ⟨_, _, _, rfl, hi2⟩
        have hjj := HJ'.out
        have HFIN := Lib.hid hfin; clear hfin; have HM3 := Lib.hid hm3; clear hm3; have HI2 := Lib.hid hi2; clear hi2; have HM2 := Lib.hid hm2; clear hm2; have HQ3 := Lib.hid hq3; clear hq3; have HR3 := Lib.hid hr3; clear hr3; have HBA := Lib.hid hbA; clear hbA
        go_wp2_with fail
        go_roundw
        case rel =>
          refine ⟨j + 1, a3, cap3, ms' ++ [.ag [.c (.int .i64 k1), .c (.int .i64 n1), .c (.string s1), .sl a2 cap2 4 52 ms2]], by omega, by go_num, by simp [hjj], HFIN.out, ?_, ?_, ?_, ?_, ?_⟩
          · exact M.Mine.keep HM3.out (fun b hb1 hb2 => by simp (disch := (first | omega | (simp; omega))) only [heapSet])
          · have := HQ3.out.set3 (.slice a3 (ms'.length + 1) cap3); simpa [hjj] using this
          · exact HR3.out.far _ (by first | (simp; done) | (simp; omega))
          · (repeat (first | with_reducible assumption | with_reducible exact Below.refl _ _ | with_reducible refine Below.drew ?_ | with_reducible refine belowDrewN ?_ _ | ((with_reducible refine Below.setCell ?_ ?_ _); rotate_left; focus (first | omega | (simp; done) | (simp; omega))) | ((with_reducible refine Below.alloc ?_ ?_ _); rotate_left; focus (first | omega | (simp; done) | (simp; omega))) | ((with_reducible refine Below.trans ?_ (Below.mono hb2 ?_)); rotate_left; focus (first | omega | (simp; done) | (simp; omega))) | ((with_reducible refine Below.trans ?_ (Below.mono hb3 ?_)); rotate_left; focus (first | omega | (simp; done) | (simp; omega)))))
          · simp; omega
        case measure => simp [intOf]; omega
    · have HJ' := Lib.hid hj'; clear hj'
      have HQ := Lib.hid hq; clear hq
      have HR := Lib.hid hr; clear hr
      go_wp2_with fail
      refine bodyPost_ret (v := .agg #[.int .i64 k, .int .i64 n, .string s, .slice a' ms'.length cap']) (by simp [results, Try.results58, go_sem, q0, q1, q2, q3, r0, r1, r2, r3, HJ'.out]) rfl ?_
      have hk2 : j = ms.length := by omega
      subst hk2
      refine ⟨a', cap', ms', rfl, ?_, ?_, ?_⟩
      · rw [HL.out, List.take_length] at hi'
        exact hi'
      · (exact M.Mine.mono (M.Mine.keep hm' (fun b hb1 hb2 => by (try simp at hb1); simp (disch := (first | omega | (simp; omega))) only [heapSet, heapNew, heapDrew, heapDrewN])) (by first | omega | (simp; done) | (simp; omega)))
      · (repeat (first | with_reducible assumption | with_reducible exact Below.refl _ _ | with_reducible refine Below.drew ?_ | with_reducible refine belowDrewN ?_ _ | ((with_reducible refine Below.setCell ?_ ?_ _); rotate_left; focus (first | omega | (simp; done) | (simp; omega))) | ((with_reducible refine Below.alloc ?_ ?_ _); rotate_left; focus (first | omega | (simp; done) | (simp; omega))) | ((with_reducible refine Below.trans ?_ (Below.mono hb ?_)); rotate_left; focus (first | omega | (simp; done) | (simp; omega)))))
set_option maxHeartbeats 1000000 in
theorem sDatumOf_calls (k n : Int) (s : ByteArray) (x : List Int) (ds : List Syn) (xa : Option Addr) (xc : Nat) (a : Option Addr) (cap : Nat) (ms : List M) (w : World) (hwf : (Syn.mk k n s x ds).wf) (hB : Syn.countL ds ≤ 1000000000) (hi : Syn.IsL 27 ds ms) (hown : (SynOwn 27 xa xc x a cap ms).In w) :
    Calls Try.prog 24 #[.agg #[.int .i64 k, .int .i64 n, .string s, .slice xa x.length xc, .slice a ms.length cap]] w (RetDat 52 (datG k n s x ds) w) := by
  have hin := SynIn_ms hown
  have hcap := hin.len
  have HI := Lib.hid hi; clear hi; have HOWN := Lib.hid hown; clear hown; have HIN := Lib.hid hin; clear hin; have HWF := Lib.hid hwf; clear hwf
  go_enter Try.func24, Try.ntmps24
  go_wp2_with fail
  refine (sIsSyntax_calls k n s x ds xa xc a cap ms _ HWF.out hB HI.out (HOWN.out.below (by (repeat (first | with_reducible assumption | with_reducible exact Below.refl _ _ | with_reducible refine Below.drew ?_ | with_reducible refine belowDrewN ?_ _ | ((with_reducible refine Below.setCell ?_ ?_ _); rotate_left; focus (first | omega | (simp; done) | (simp; omega))) | ((with_reducible refine Below.alloc ?_ ?_ _); rotate_left; focus (first | omega | (simp; done) | (simp; omega)))))))).mono ?_
  rintro e w1 ⟨rfl, hb1⟩
  obtain ⟨hc1, hf1⟩ := bcell hb1; have hz1 := hb1.size; (try simp only [World.size_alloc, World.size_setCell, World.size_drew, sizeDrewN] at hz1 hc1 hf1)
  have p0 : w.heap.size < w1.heap.size := by omega
  have p1 : w.heap.size + 1 < w1.heap.size := by omega
  have hq : SBox w.heap.size k n s (.slice xa x.length xc) (.slice a ms.length cap) w1 := by constructor <;> first | (simp (disch := omega) [hc1, hf1, go_sem]; done) | (simp (disch := omega) [hc1, hf1, go_sem]; rfl)
  have hr : DBox (w.heap.size + 1) 0 0 ⟨#[]⟩ (.slice none 0 0) w1 := by constructor <;> first | (simp (disch := omega) [hc1, hf1, go_sem]; done) | (simp (disch := omega) [hc1, hf1, go_sem]; rfl)
  obtain ⟨q0, q1, q2, q3, q4, e0, e1, e2, e3, e4⟩ := hq
  obtain ⟨r0, r1, r2, r3, g0, g1, g2, g3⟩ := hr
  clear hc1 hf1
  cases hv : isSynB k n s x ds with
  | false =>
    have hg := datG_no hv
    have HV := Lib.hid hv; clear hv; have HG := Lib.hid hg; clear hg
    go_wp2_with fail
    refine bodyPost_ret (v := .agg #[.int .i64 0, .int .i64 0, .string ⟨#[]⟩, .slice none 0 0]) (by simp [results, Try.results24, go_sem, q0, q1, q2, q3, q4, r0, r1, r2, r3]) rfl ?_
    rw [HG.out]
    refine ⟨none, 0, [], rfl, rfl, ?_, ?_⟩
    · exact M.Mine.nil _ _ _ _ (by decide)
    · (repeat (first | with_reducible assumption | with_reducible exact Below.refl _ _ | with_reducible refine Below.drew ?_ | with_reducible refine belowDrewN ?_ _ | ((with_reducible refine Below.setCell ?_ ?_ _); rotate_left; focus (first | omega | (simp; done) | (simp; omega))) | ((with_reducible refine Below.alloc ?_ ?_ _); rotate_left; focus (first | omega | (simp; done) | (simp; omega))) | ((with_reducible refine Below.trans ?_ (Below.mono hb1 ?_)); rotate_left; focus (first | omega | (simp; done) | (simp; omega)))))
  | true =>
    have hg := datG_yes hv
    have HV := Lib.hid hv; clear hv; have HG := Lib.hid hg; clear hg
    go_wp2_with fail
    refine (l2Datum_calls ds k n s x xa xc a cap ms _ hB HI.out (HIN.out.below (by (repeat (first | with_reducible assumption | with_reducible exact Below.refl _ _ | with_reducible refine Below.drew ?_ | with_reducible refine belowDrewN ?_ _ | ((with_reducible refine Below.setCell ?_ ?_ _); rotate_left; focus (first | omega | (simp; done) | (simp; omega))) | ((with_reducible refine Below.alloc ?_ ?_ _); rotate_left; focus (first | omega | (simp; done) | (simp; omega))) | ((with_reducible refine Below.trans ?_ (Below.mono hb1 ?_)); rotate_left; focus (first | omega | (simp; done) | (simp; omega)))))))).mono ?_
    rintro e w2 ⟨a2, cap2, ms2, rfl, hi2, hm2, hb2⟩
    obtain ⟨hc2, hf2⟩ := bcell hb2; have hz2 := hb2.size; (try simp only [World.size_alloc, World.size_setCell, World.size_drew, sizeDrewN] at hz2 hc2 hf2)
    simp only [Dat.k_mk, Dat.n_mk, Dat.s_mk, Dat.ds_mk] at hi2 ⊢
    have hr : DBox (w.heap.size + 1) 0 0 ⟨#[]⟩ (.slice none 0 0) w2 := by constructor <;> simp (disch := omega) [hc2, hf2, r0, r1, r2, r3, g0, g1, g2, g3]
    obtain ⟨s0, s1, s2, s3, h0, h1, h2, h3⟩ := hr
    have HI2 := Lib.hid hi2; clear hi2; have HM2 := Lib.hid hm2; clear hm2
    go_wp2_with fail
    refine bodyPost_ret (v := .agg #[.int .i64 k, .int .i64 n, .string s, .slice a2 ms2.length cap2]) (by simp [results, Try.results24, go_sem, s0, s1, s2, s3]) rfl ?_
    refine ⟨a2, cap2, ms2, by rw [HG.out]; rfl, by rw [HG.out]; exact HI2.out, ?_, ?_⟩
    · (exact M.Mine.mono (M.Mine.keep HM2.out (fun b hb1 hb2 => by (try simp at hb1); simp (disch := (first | omega | (simp; omega))) only [heapSet, heapNew, heapDrew, heapDrewN])) (by first | omega | (simp; done) | (simp; omega)))
    · (repeat (first | with_reducible assumption | with_reducible exact Below.refl _ _ | with_reducible refine Below.drew ?_ | with_reducible refine belowDrewN ?_ _ | ((with_reducible refine Below.setCell ?_ ?_ _); rotate_left; focus (first | omega | (simp; done) | (simp; omega))) | ((with_reducible refine Below.alloc ?_ ?_ _); rotate_left; focus (first | omega | (simp; done) | (simp; omega))) | ((with_reducible refine Below.trans ?_ (Below.mono hb1 ?_)); rotate_left; focus (first | omega | (simp; done) | (simp; omega))) | ((with_reducible refine Below.trans ?_ (Below.mono hb2 ?_)); rotate_left; focus (first | omega | (simp; done) | (simp; omega)))))
set_option maxHeartbeats 1000000 in
theorem iDatumOf_calls (k n : Int) (s : ByteArray) (x : List Int) (ds : List Syn) (xa : Option Addr) (xc : Nat) (a : Option Addr) (cap : Nat) (ms : List M) (w : World) (hwf : (Syn.mk k n s x ds).wf) (hB : Syn.countL ds ≤ 1000000000) (hi : Syn.IsL 27 ds ms) (hown : (SynOwn 27 xa xc x a cap ms).In w) :
    Calls Try.prog 23 #[.agg #[.int .i64 k, .int .i64 n, .string s, .slice xa x.length xc, .slice a ms.length cap]] w (RetDat 52 (datG k n s x ds) w) := by
  have hin := SynIn_ms hown
  have hcap := hin.len
  have HI := Lib.hid hi; clear hi; have HOWN := Lib.hid hown; clear hown; have HIN := Lib.hid hin; clear hin; have HWF := Lib.hid hwf; clear hwf
  go_enter Try.func23, Try.ntmps23
  go_wp2_with fail
  refine (iIsSyntax_calls k n s x ds xa xc a cap ms _ HWF.out hB HI.out (HOWN.out.below (by (repeat (first | with_reducible assumption | with_reducible exact Below.refl _ _ | with_reducible refine Below.drew ?_ | with_reducible refine belowDrewN ?_ _ | ((with_reducible refine Below.setCell ?_ ?_ _); rotate_left; focus (first | omega | (simp; done) | (simp; omega))) | ((with_reducible refine Below.alloc ?_ ?_ _); rotate_left; focus (first | omega | (simp; done) | (simp; omega)))))))).mono ?_
  rintro e w1 ⟨rfl, hb1⟩
  obtain ⟨hc1, hf1⟩ := bcell hb1; have hz1 := hb1.size; (try simp only [World.size_alloc, World.size_setCell, World.size_drew, sizeDrewN] at hz1 hc1 hf1)
  have p0 : w.heap.size < w1.heap.size := by omega
  have p1 : w.heap.size + 1 < w1.heap.size := by omega
  have hq : SBox w.heap.size k n s (.slice xa x.length xc) (.slice a ms.length cap) w1 := by constructor <;> first | (simp (disch := omega) [hc1, hf1, go_sem]; done) | (simp (disch := omega) [hc1, hf1, go_sem]; rfl)
  have hr : DBox (w.heap.size + 1) 0 0 ⟨#[]⟩ (.slice none 0 0) w1 := by constructor <;> first | (simp (disch := omega) [hc1, hf1, go_sem]; done) | (simp (disch := omega) [hc1, hf1, go_sem]; rfl)
  obtain ⟨q0, q1, q2, q3, q4, e0, e1, e2, e3, e4⟩ := hq
  obtain ⟨r0, r1, r2, r3, g0, g1, g2, g3⟩ := hr
  clear hc1 hf1
  cases hv : isSynB k n s x ds with
  | false =>
    have hg := datG_no hv
    have HV := Lib.hid hv; clear hv; have HG := Lib.hid hg; clear hg
    go_wp2_with fail
    refine bodyPost_ret (v := .agg #[.int .i64 0, .int .i64 0, .string ⟨#[]⟩, .slice none 0 0]) (by simp [results, Try.results23, go_sem, q0, q1, q2, q3, q4, r0, r1, r2, r3]) rfl ?_
    rw [HG.out]
    refine ⟨none, 0, [], rfl, rfl, ?_, ?_⟩
    · exact M.Mine.nil _ _ _ _ (by decide)
    · (repeat (first | with_reducible assumption | with_reducible exact Below.refl _ _ | with_reducible refine Below.drew ?_ | with_reducible refine belowDrewN ?_ _ | ((with_reducible refine Below.setCell ?_ ?_ _); rotate_left; focus (first | omega | (simp; done) | (simp; omega))) | ((with_reducible refine Below.alloc ?_ ?_ _); rotate_left; focus (first | omega | (simp; done) | (simp; omega))) | ((with_reducible refine Below.trans ?_ (Below.mono hb1 ?_)); rotate_left; focus (first | omega | (simp; done) | (simp; omega)))))
  | true =>
    have hg := datG_yes hv
    have HV := Lib.hid hv; clear hv; have HG := Lib.hid hg; clear hg
    go_wp2_with fail
    refine (iToDatum_calls ds k n s x xa xc a cap ms _ hB HI.out (HIN.out.below (by (repeat (first | with_reducible assumption | with_reducible exact Below.refl _ _ | with_reducible refine Below.drew ?_ | with_reducible refine belowDrewN ?_ _ | ((with_reducible refine Below.setCell ?_ ?_ _); rotate_left; focus (first | omega | (simp; done) | (simp; omega))) | ((with_reducible refine Below.alloc ?_ ?_ _); rotate_left; focus (first | omega | (simp; done) | (simp; omega))) | ((with_reducible refine Below.trans ?_ (Below.mono hb1 ?_)); rotate_left; focus (first | omega | (simp; done) | (simp; omega)))))))).mono ?_
    rintro e w2 ⟨a2, cap2, ms2, rfl, hi2, hm2, hb2⟩
    obtain ⟨hc2, hf2⟩ := bcell hb2; have hz2 := hb2.size; (try simp only [World.size_alloc, World.size_setCell, World.size_drew, sizeDrewN] at hz2 hc2 hf2)
    simp only [Dat.k_mk, Dat.n_mk, Dat.s_mk, Dat.ds_mk] at hi2 ⊢
    have hr : DBox (w.heap.size + 1) 0 0 ⟨#[]⟩ (.slice none 0 0) w2 := by constructor <;> simp (disch := omega) [hc2, hf2, r0, r1, r2, r3, g0, g1, g2, g3]
    obtain ⟨s0, s1, s2, s3, h0, h1, h2, h3⟩ := hr
    have HI2 := Lib.hid hi2; clear hi2; have HM2 := Lib.hid hm2; clear hm2
    go_wp2_with fail
    refine bodyPost_ret (v := .agg #[.int .i64 k, .int .i64 n, .string s, .slice a2 ms2.length cap2]) (by simp [results, Try.results23, go_sem, s0, s1, s2, s3]) rfl ?_
    refine ⟨a2, cap2, ms2, by rw [HG.out]; rfl, by rw [HG.out]; exact HI2.out, ?_, ?_⟩
    · (exact M.Mine.mono (M.Mine.keep HM2.out (fun b hb1 hb2 => by (try simp at hb1); simp (disch := (first | omega | (simp; omega))) only [heapSet, heapNew, heapDrew, heapDrewN])) (by first | omega | (simp; done) | (simp; omega)))
    · (repeat (first | with_reducible assumption | with_reducible exact Below.refl _ _ | with_reducible refine Below.drew ?_ | with_reducible refine belowDrewN ?_ _ | ((with_reducible refine Below.setCell ?_ ?_ _); rotate_left; focus (first | omega | (simp; done) | (simp; omega))) | ((with_reducible refine Below.alloc ?_ ?_ _); rotate_left; focus (first | omega | (simp; done) | (simp; omega))) | ((with_reducible refine Below.trans ?_ (Below.mono hb1 ?_)); rotate_left; focus (first | omega | (simp; done) | (simp; omega))) | ((with_reducible refine Below.trans ?_ (Below.mono hb2 ?_)); rotate_left; focus (first | omega | (simp; done) | (simp; omega)))))
end Go.Proofs.Ytghbnehocggnnaa

/-
  Walks: two lists of scopes compared. No condition.
-/
set_option linter.unusedVariables false
set_option linter.unusedSimpArgs false
set_option maxRecDepth 100000
namespace Go.Proofs.Ytghbnehocggnnaa
open Go.RowKit

/-- It hands back v and only draws. -/
def RetQ (v : Value) (w : World) (e : Ending) (w' : World) : Prop := e = .returned v ∧ ∃ m, w' = w.drewN m
theorem RetQ.ret {v : Value} {w : World} {e : Ending} {w' : World} (h : RetQ v w e w') : Ret v w e w' := by
  obtain ⟨h1, m, rfl⟩ := h
  exact ⟨h1, belowDrewN (Below.refl _ _) m⟩
theorem drewN2 (w : World) (m n : Nat) : ∃ k, (w.drewN m).drewN n = w.drewN k := ⟨m + n, World.drewN_drewN ..⟩
theorem below_ex {w wr : World} (h : ∃ m, wr = w.drewN m) : Below w.heap.size w wr := by obtain ⟨m, rfl⟩ := h; exact belowDrewN (Below.refl _ _) m
theorem ex_drew {w wr : World} (h : ∃ m, wr = w.drewN m) (n : Nat) : ∃ m, wr.drewN n = w.drewN m := by obtain ⟨m, rfl⟩ := h; exact drewN2 w m n
theorem l2SameInts_q (a : Option Addr) (cap : Nat) (l : List Int) (a2 : Option Addr) (cap2 : Nat) (r : List Int) (w : World) (h : (M.sl a cap 1 3 (intM l)).In w) (h2 : (M.sl a2 cap2 1 3 (intM r)).In w) :
    Calls Try.prog 44 #[.slice a l.length cap, .slice a2 r.length cap2] w (RetQ (.bool (eqL l r)) w) := by
  have hl := Ints.len h
  have hr := Ints.len h2
  by_cases he : l.length = r.length
  · have hb : ((l.length : Int) != (r.length : Int)) = false := by simp [he]
    have H := Lib.hid h; clear h; have H2 := Lib.hid h2; clear h2; have HE := Lib.hid he; clear he
    go_enter Try.func44, Try.ntmps44
    go_wp2
    go_loopw [13] (fun i wr => ∃ k : Nat, k ≤ l.length ∧ i = .int .i64 k ∧ l.take k = r.take k ∧ ∃ m, wr = w.drewN m) (fun i _ => l.length - (intOf i).toNat)
    case atStart => exact ⟨0, Nat.zero_le _, rfl, by simp, 0, rfl⟩
    case round =>
      obtain ⟨k, hk, rfl, hno, hex⟩ := hrel
      have hbl := below_ex hex
      have HNO := Lib.hid hno; clear hno
      by_cases hlt : k < l.length
      · have hlt2 : k < r.length := by have := HE.out; omega
        obtain ⟨b, off, x, rfl, hx, hc⟩ := Ints.elem (H.out.below hbl) k hlt
        obtain ⟨b2, off2, y, rfl, hy, hc2⟩ := Ints.elem (H2.out.below hbl) k hlt2
        have HX := Lib.hid hx; clear hx; have HY := Lib.hid hy; clear hy
        by_cases hxy : x = y
        · have e1 : (x != y) = false := by simp [hxy]
          have HXY := Lib.hid hxy; clear hxy
          go_wp2_with fail
          go_quiet (fail)
          go_wp2_with fail
          have hnx : l.take (k + 1) = r.take (k + 1) := take_eq_succ HNO.out HX.out HY.out HXY.out
          go_roundw
          case rel => exact ⟨k + 1, by omega, by go_num, hnx, ex_drew hex _⟩
          case measure => simp [intOf]; omega
        · have e1 : (x != y) = true := by simp [hxy]
          have HXY := Lib.hid hxy; clear hxy
          go_wp2_with fail
          go_quiet (fail)
          go_wp2_with fail
          go_ret
          exact ⟨ret_b ((eqL_not _ _).2 (ne_of_get HX.out HY.out HXY.out)).symm, ex_drew hex _⟩
      · go_wp2
        go_ret
        have hk2 : k = l.length := by omega
        subst hk2
        refine ⟨ret_b ((eqL_iff _ _).2 ?_).symm, hex⟩
        have h := HNO.out
        rw [List.take_length, HE.out, List.take_length] at h
        exact h
  · have hb : ((l.length : Int) != (r.length : Int)) = true := by simp; omega
    have H := Lib.hid h; clear h; have H2 := Lib.hid h2; clear h2; have HE := Lib.hid he; clear he
    go_enter Try.func44, Try.ntmps44
    go_wp2
    go_ret
    exact ⟨ret_b ((eqL_not _ _).2 (fun e => HE.out (by rw [e]))).symm, 0, rfl⟩
theorem l2SameInts_calls (a : Option Addr) (cap : Nat) (l : List Int) (a2 : Option Addr) (cap2 : Nat) (r : List Int) (w : World) (h : (M.sl a cap 1 3 (intM l)).In w) (h2 : (M.sl a2 cap2 1 3 (intM r)).In w) :
    Calls Try.prog 44 #[.slice a l.length cap, .slice a2 r.length cap2] w (Ret (.bool (eqL l r)) w) := (l2SameInts_q a cap l a2 cap2 r w h h2).mono fun _ _ h => h.ret
theorem sameInts_q (a : Option Addr) (cap : Nat) (l : List Int) (a2 : Option Addr) (cap2 : Nat) (r : List Int) (w : World) (h : (M.sl a cap 1 3 (intM l)).In w) (h2 : (M.sl a2 cap2 1 3 (intM r)).In w) :
    Calls Try.prog 57 #[.slice a l.length cap, .slice a2 r.length cap2] w (RetQ (.bool (eqL l r)) w) := by
  have hl := Ints.len h
  have hr := Ints.len h2
  by_cases he : l.length = r.length
  · have hb : ((l.length : Int) != (r.length : Int)) = false := by simp [he]
    have H := Lib.hid h; clear h; have H2 := Lib.hid h2; clear h2; have HE := Lib.hid he; clear he
    go_enter Try.func57, Try.ntmps57
    go_wp2
    go_loopw [13] (fun i wr => ∃ k : Nat, k ≤ l.length ∧ i = .int .i64 k ∧ l.take k = r.take k ∧ ∃ m, wr = w.drewN m) (fun i _ => l.length - (intOf i).toNat)
    case atStart => exact ⟨0, Nat.zero_le _, rfl, by simp, 0, rfl⟩
    case round =>
      obtain ⟨k, hk, rfl, hno, hex⟩ := hrel
      have hbl := below_ex hex
      have HNO := Lib.hid hno; clear hno
      by_cases hlt : k < l.length
      · have hlt2 : k < r.length := by have := HE.out; omega
        obtain ⟨b, off, x, rfl, hx, hc⟩ := Ints.elem (H.out.below hbl) k hlt
        obtain ⟨b2, off2, y, rfl, hy, hc2⟩ := Ints.elem (H2.out.below hbl) k hlt2
        have HX := Lib.hid hx; clear hx; have HY := Lib.hid hy; clear hy
        by_cases hxy : x = y
        · have e1 : (x != y) = false := by simp [hxy]
          have HXY := Lib.hid hxy; clear hxy
          go_wp2_with fail
          go_quiet (fail)
          go_wp2_with fail
          have hnx : l.take (k + 1) = r.take (k + 1) := take_eq_succ HNO.out HX.out HY.out HXY.out
          go_roundw
          case rel => exact ⟨k + 1, by omega, by go_num, hnx, ex_drew hex _⟩
          case measure => simp [intOf]; omega
        · have e1 : (x != y) = true := by simp [hxy]
          have HXY := Lib.hid hxy; clear hxy
          go_wp2_with fail
          go_quiet (fail)
          go_wp2_with fail
          go_ret
          exact ⟨ret_b ((eqL_not _ _).2 (ne_of_get HX.out HY.out HXY.out)).symm, ex_drew hex _⟩
      · go_wp2
        go_ret
        have hk2 : k = l.length := by omega
        subst hk2
        refine ⟨ret_b ((eqL_iff _ _).2 ?_).symm, hex⟩
        have h := HNO.out
        rw [List.take_length, HE.out, List.take_length] at h
        exact h
  · have hb : ((l.length : Int) != (r.length : Int)) = true := by simp; omega
    have H := Lib.hid h; clear h; have H2 := Lib.hid h2; clear h2; have HE := Lib.hid he; clear he
    go_enter Try.func57, Try.ntmps57
    go_wp2
    go_ret
    exact ⟨ret_b ((eqL_not _ _).2 (fun e => HE.out (by rw [e]))).symm, 0, rfl⟩
theorem sameInts_calls (a : Option Addr) (cap : Nat) (l : List Int) (a2 : Option Addr) (cap2 : Nat) (r : List Int) (w : World) (h : (M.sl a cap 1 3 (intM l)).In w) (h2 : (M.sl a2 cap2 1 3 (intM r)).In w) :
    Calls Try.prog 57 #[.slice a l.length cap, .slice a2 r.length cap2] w (Ret (.bool (eqL l r)) w) := (sameInts_q a cap l a2 cap2 r w h h2).mono fun _ _ h => h.ret
theorem lawInts_q (a : Option Addr) (cap : Nat) (l : List Int) (a2 : Option Addr) (cap2 : Nat) (r : List Int) (w : World) (h : (M.sl a cap 1 3 (intM l)).In w) (h2 : (M.sl a2 cap2 1 3 (intM r)).In w) :
    Calls Try.prog 10 #[.slice a l.length cap, .slice a2 r.length cap2] w (RetQ (.bool (eqL l r)) w) := by
  have hl := Ints.len h
  have hr := Ints.len h2
  by_cases he : l.length = r.length
  · have hb : ((l.length : Int) != (r.length : Int)) = false := by simp [he]
    have H := Lib.hid h; clear h; have H2 := Lib.hid h2; clear h2; have HE := Lib.hid he; clear he
    go_enter Try.func10, Try.ntmps10
    go_wp2
    go_loopw [13] (fun i wr => ∃ k : Nat, k ≤ l.length ∧ i = .int .i64 k ∧ l.take k = r.take k ∧ ∃ m, wr = w.drewN m) (fun i _ => l.length - (intOf i).toNat)
    case atStart => exact ⟨0, Nat.zero_le _, rfl, by simp, 0, rfl⟩
    case round =>
      obtain ⟨k, hk, rfl, hno, hex⟩ := hrel
      have hbl := below_ex hex
      have HNO := Lib.hid hno; clear hno
      by_cases hlt : k < l.length
      · have hlt2 : k < r.length := by have := HE.out; omega
        obtain ⟨b, off, x, rfl, hx, hc⟩ := Ints.elem (H.out.below hbl) k hlt
        obtain ⟨b2, off2, y, rfl, hy, hc2⟩ := Ints.elem (H2.out.below hbl) k hlt2
        have HX := Lib.hid hx; clear hx; have HY := Lib.hid hy; clear hy
        by_cases hxy : x = y
        · have e1 : (x != y) = false := by simp [hxy]
          have HXY := Lib.hid hxy; clear hxy
          go_wp2_with fail
          go_quiet (fail)
          go_wp2_with fail
          have hnx : l.take (k + 1) = r.take (k + 1) := take_eq_succ HNO.out HX.out HY.out HXY.out
          go_roundw
          case rel => exact ⟨k + 1, by omega, by go_num, hnx, ex_drew hex _⟩
          case measure => simp [intOf]; omega
        · have e1 : (x != y) = true := by simp [hxy]
          have HXY := Lib.hid hxy; clear hxy
          go_wp2_with fail
          go_quiet (fail)
          go_wp2_with fail
          go_ret
          exact ⟨ret_b ((eqL_not _ _).2 (ne_of_get HX.out HY.out HXY.out)).symm, ex_drew hex _⟩
      · go_wp2
        go_ret
        have hk2 : k = l.length := by omega
        subst hk2
        refine ⟨ret_b ((eqL_iff _ _).2 ?_).symm, hex⟩
        have h := HNO.out
        rw [List.take_length, HE.out, List.take_length] at h
        exact h
  · have hb : ((l.length : Int) != (r.length : Int)) = true := by simp; omega
    have H := Lib.hid h; clear h; have H2 := Lib.hid h2; clear h2; have HE := Lib.hid he; clear he
    go_enter Try.func10, Try.ntmps10
    go_wp2
    go_ret
    exact ⟨ret_b ((eqL_not _ _).2 (fun e => HE.out (by rw [e]))).symm, 0, rfl⟩
theorem lawInts_calls (a : Option Addr) (cap : Nat) (l : List Int) (a2 : Option Addr) (cap2 : Nat) (r : List Int) (w : World) (h : (M.sl a cap 1 3 (intM l)).In w) (h2 : (M.sl a2 cap2 1 3 (intM r)).In w) :
    Calls Try.prog 10 #[.slice a l.length cap, .slice a2 r.length cap2] w (Ret (.bool (eqL l r)) w) := (lawInts_q a cap l a2 cap2 r w h h2).mono fun _ _ h => h.ret
end Go.Proofs.Ytghbnehocggnnaa

/-
  Walks: IsEllipsis, SameIdentifier. No condition.
-/
set_option linter.unusedVariables false
set_option linter.unusedSimpArgs false
set_option maxRecDepth 100000
namespace Go.Proofs.Ytghbnehocggnnaa
open Go.RowKit

noncomputable def isEllB (k n : Int) (s : ByteArray) (x : List Int) (ds : List Syn) : Bool := isIdB k n s x ds && isDotsB k s
open Classical in
noncomputable def eqTx (s t : ByteArray) : Bool := decide (s = t)
theorem eqTx_yes {s t : ByteArray} (h : s = t) : eqTx s t = true := by simp [eqTx, h]
theorem eqTx_no {s t : ByteArray} (h : ¬ s = t) : eqTx s t = false := by simp [eqTx, h]
noncomputable def sameIdB (s s' : ByteArray) (x x' : List Int) : Bool := eqTx s s' && eqL x x'
theorem sameName_calls (k n : Int) (s : ByteArray) (x : List Int) (xa : Option Addr) (xc : Nat) (a : Option Addr) (l cap : Nat) (k' n' : Int) (s' : ByteArray) (x' : List Int) (xa' : Option Addr) (xc' : Nat) (a' : Option Addr) (l' cap' : Nat) (w : World) (hx : (M.sl xa xc 1 3 (intM x)).In w) (hx' : (M.sl xa' xc' 1 3 (intM x')).In w) :
    Calls Try.prog 100 #[.agg #[.int .i64 k, .int .i64 n, .string s, .slice xa x.length xc, .slice a l cap], .agg #[.int .i64 k', .int .i64 n', .string s', .slice xa' x'.length xc', .slice a' l' cap']] w (Ret (.bool ((k == 1) && ((k' == 1) && sameIdB s s' x x'))) w) := by
  have HX := Lib.hid hx; clear hx; have HX' := Lib.hid hx'; clear hx'
  by_cases hk : k = 1
  · have h1 : (k == 1) = true := by simp [hk]
    by_cases hk' : k' = 1
    · have h2 : (k' == 1) = true := by simp [hk']
      by_cases hs : s = s'
      · subst hs
        have hv : ((k == 1) && ((k' == 1) && sameIdB s s x x')) = eqL x x' := by unfold sameIdB; rw [h1, h2, eqTx_yes rfl, Bool.true_and, Bool.true_and, Bool.true_and]
        have HV := Lib.hid hv; clear hv; have HK := Lib.hid hk; clear hk; have HK' := Lib.hid hk'; clear hk'
        go_enter Try.func100, Try.ntmps100
        go_wp2_with fail
        refine (sameInts_calls xa xc x xa' xc' x' _ (HX.out.below (by (repeat (first | with_reducible assumption | with_reducible exact Below.refl _ _ | with_reducible refine Below.drew ?_ | with_reducible refine belowDrewN ?_ _ | ((with_reducible refine Below.setCell ?_ ?_ _); rotate_left; focus (first | omega | (simp; done) | (simp; omega))) | ((with_reducible refine Below.alloc ?_ ?_ _); rotate_left; focus (first | omega | (simp; done) | (simp; omega))))))) (HX'.out.below (by (repeat (first | with_reducible assumption | with_reducible exact Below.refl _ _ | with_reducible refine Below.drew ?_ | with_reducible refine belowDrewN ?_ _ | ((with_reducible refine Below.setCell ?_ ?_ _); rotate_left; focus (first | omega | (simp; done) | (simp; omega))) | ((with_reducible refine Below.alloc ?_ ?_ _); rotate_left; focus (first | omega | (simp; done) | (simp; omega)))))))).mono ?_
        rintro e w1 ⟨rfl, hb1⟩
        go_wp2_with fail
        go_ret
        exact ⟨ret_b HV.out.symm, by (repeat (first | with_reducible assumption | with_reducible exact Below.refl _ _ | with_reducible refine Below.drew ?_ | with_reducible refine belowDrewN ?_ _ | ((with_reducible refine Below.setCell ?_ ?_ _); rotate_left; focus (first | omega | (simp; done) | (simp; omega))) | ((with_reducible refine Below.alloc ?_ ?_ _); rotate_left; focus (first | omega | (simp; done) | (simp; omega))) | ((with_reducible refine Below.trans ?_ (Below.mono hb1 ?_)); rotate_left; focus (first | omega | (simp; done) | (simp; omega)))))⟩
      · have hs' := ba_ne hs
        have hv : ((k == 1) && ((k' == 1) && sameIdB s s' x x')) = false := by unfold sameIdB; rw [h1, h2, eqTx_no hs]; rfl
        have HV := Lib.hid hv; clear hv; have HS := Lib.hid hs; clear hs; have HK := Lib.hid hk; clear hk; have HK' := Lib.hid hk'; clear hk'
        go_enter Try.func100, Try.ntmps100
        go_wp2_with fail
        go_ret
        exact ⟨ret_b HV.out.symm, by (repeat (first | with_reducible assumption | with_reducible exact Below.refl _ _ | with_reducible refine Below.drew ?_ | with_reducible refine belowDrewN ?_ _ | ((with_reducible refine Below.setCell ?_ ?_ _); rotate_left; focus (first | omega | (simp; done) | (simp; omega))) | ((with_reducible refine Below.alloc ?_ ?_ _); rotate_left; focus (first | omega | (simp; done) | (simp; omega)))))⟩
    · have h2 : (k' == 1) = false := by simp [hk']
      have hv : ((k == 1) && ((k' == 1) && sameIdB s s' x x')) = false := by rw [h1, h2]; rfl
      have HV := Lib.hid hv; clear hv; have HK := Lib.hid hk; clear hk; have HK' := Lib.hid hk'; clear hk'
      go_enter Try.func100, Try.ntmps100
      go_wp2_with fail
      go_ret
      exact ⟨ret_b HV.out.symm, by (repeat (first | with_reducible assumption | with_reducible exact Below.refl _ _ | with_reducible refine Below.drew ?_ | with_reducible refine belowDrewN ?_ _ | ((with_reducible refine Below.setCell ?_ ?_ _); rotate_left; focus (first | omega | (simp; done) | (simp; omega))) | ((with_reducible refine Below.alloc ?_ ?_ _); rotate_left; focus (first | omega | (simp; done) | (simp; omega)))))⟩
  · have h1 : (k == 1) = false := by simp [hk]
    have hv : ((k == 1) && ((k' == 1) && sameIdB s s' x x')) = false := by rw [h1]; rfl
    have HV := Lib.hid hv; clear hv; have HK := Lib.hid hk; clear hk
    go_enter Try.func100, Try.ntmps100
    go_wp2_with fail
    go_ret
    exact ⟨ret_b HV.out.symm, by (repeat (first | with_reducible assumption | with_reducible exact Below.refl _ _ | with_reducible refine Below.drew ?_ | with_reducible refine belowDrewN ?_ _ | ((with_reducible refine Below.setCell ?_ ?_ _); rotate_left; focus (first | omega | (simp; done) | (simp; omega))) | ((with_reducible refine Below.alloc ?_ ?_ _); rotate_left; focus (first | omega | (simp; done) | (simp; omega)))))⟩
noncomputable def samIdB (k n : Int) (s : ByteArray) (x : List Int) (ds : List Syn) (k' n' : Int) (s' : ByteArray) (x' : List Int) (ds' : List Syn) : Bool := isIdB k n s x ds && (isIdB k' n' s' x' ds' && sameIdB s s' x x')
theorem isIdB_k {k n : Int} {s : ByteArray} {x : List Int} {ds : List Syn} (h : isIdB k n s x ds = true) : (k == 1) = true := by unfold isIdB at h; exact (Bool.and_eq_true_iff.1 h).1
end Go.Proofs.Ytghbnehocggnnaa

/-
  The identifiers of a piece of syntax, in plain terms. No condition.
-/
set_option linter.unusedVariables false
set_option linter.unusedSimpArgs false
namespace Go.Proofs.Ytghbnehocggnnaa
open Go.RowKit

/-- an identifier with this text and these scopes is in the list -/
def HasId (acc : List Syn) (s : ByteArray) (x : List Int) : Prop := ∃ y ∈ acc, y.s = s ∧ y.x = x
open Classical in
noncomputable def hasIdB (acc : List Syn) (s : ByteArray) (x : List Int) : Bool := decide (HasId acc s x)
theorem hasIdB_iff (acc : List Syn) (s : ByteArray) (x : List Int) : hasIdB acc s x = true ↔ HasId acc s x := by simp [hasIdB]
theorem hasIdB_not (acc : List Syn) (s : ByteArray) (x : List Int) : hasIdB acc s x = false ↔ ¬ HasId acc s x := by simp [hasIdB]
theorem noId_nil (s : ByteArray) (x : List Int) : ¬ HasId [] s x := by rintro ⟨y, hy, _⟩; cases hy
theorem noId_step {acc : List Syn} {j : Nat} {d : Syn} {s : ByteArray} {x : List Int} (h : ¬ HasId (acc.take j) s x) (hd : acc[j]? = some d) (hn : ¬ (d.s = s ∧ d.x = x)) : ¬ HasId (acc.take (j + 1)) s x := by
  rintro ⟨y, hy, h1⟩
  rw [take_snoc hd, List.mem_append] at hy
  rcases hy with hy | hy
  · exact h ⟨y, hy, h1⟩
  · simp at hy; subst hy; exact hn h1
open Classical in
/-- the identifiers so far, and this one if it is one and new -/
noncomputable def addI (k n : Int) (s : ByteArray) (x : List Int) (ds : List Syn) (acc : List Syn) : List Syn := if k = 1 ∧ ¬ HasId acc s x then acc ++ [.mk k n s x ds] else acc
mutual
noncomputable def idD : Syn → List Syn → List Syn
  | .mk k n s x ds, acc => idL ds (addI k n s x ds acc)
noncomputable def idL : List Syn → List Syn → List Syn
  | [], acc => acc
  | d :: r, acc => idL r (idD d acc)
end
theorem idL_append : ∀ (ds es acc : List Syn), idL (ds ++ es) acc = idL es (idL ds acc)
  | [], es, acc => by simp [idL]
  | d :: r, es, acc => by simp only [List.cons_append, idL]; rw [idL_append r es]
theorem idL_take {ds : List Syn} {j : Nat} {d : Syn} (h : ds[j]? = some d) (acc : List Syn) : idL (ds.take (j + 1)) acc = idD d (idL (ds.take j) acc) := by
  rw [take_snoc h, idL_append]; simp [idL]
theorem addI_yes {acc : List Syn} {s : ByteArray} {x : List Int} (h : ¬ HasId acc s x) (n : Int) (ds : List Syn) : addI 1 n s x ds acc = acc ++ [.mk 1 n s x ds] := by simp [addI, h]
theorem addI_has {acc : List Syn} {s : ByteArray} {x : List Int} (h : HasId acc s x) (k n : Int) (ds : List Syn) : addI k n s x ds acc = acc := by simp [addI, h]
theorem addI_other {k : Int} (h : ¬ k = 1) (n : Int) (s : ByteArray) (x : List Int) (ds acc : List Syn) : addI k n s x ds acc = acc := by simp [addI, h]
theorem addI_length (k n : Int) (s : ByteArray) (x : List Int) (ds acc : List Syn) : (addI k n s x ds acc).length ≤ acc.length + 1 := by
  unfold addI; split <;> simp
end Go.Proofs.Ytghbnehocggnnaa

/-
  The identifiers of a piece of syntax: how many, of which kind, how great. No condition.
-/
set_option linter.unusedVariables false
set_option linter.unusedSimpArgs false
namespace Go.Proofs.Ytghbnehocggnnaa
open Go.RowKit

theorem idD_mk (k n : Int) (s : ByteArray) (x : List Int) (ds acc : List Syn) : idD (.mk k n s x ds) acc = idL ds (addI k n s x ds acc) := by rw [idD]
theorem idL_nil (acc : List Syn) : idL [] acc = acc := by rw [idL]
theorem idL_ind {P : List Syn → List Syn → List Syn → Prop} (h0 : ∀ acc, P [] acc acc) (hs : ∀ (ds : List Syn) (k n : Int) (s : ByteArray) (x : List Int) (es acc cur out : List Syn), P ds acc cur → P es (addI k n s x es cur) out → P (ds ++ [.mk k n s x es]) acc out) : ∀ ds acc, P ds acc (idL ds acc) := by
  refine Syn.inductL fun ds ih => ?_
  intro acc
  have key : ∀ j, j ≤ ds.length → P (ds.take j) acc (idL (ds.take j) acc) := by
    intro j
    induction j with
    | zero => intro _; simpa [idL_nil] using h0 acc
    | succ j ihj =>
      intro hj
      have hd : ds[j]? = some ds[j] := List.getElem?_eq_getElem (by omega)
      have h1 := ihj (by omega)
      rw [idL_take hd, take_snoc hd]
      cases hx : ds[j] with
      | mk k1 n1 s1 x1 ds1 =>
        have h3 := ih k1 n1 s1 x1 ds1 (by rw [← hx]; exact List.getElem_mem _) (addI k1 n1 s1 x1 ds1 (idL (ds.take j) acc))
        rw [idD_mk]
        exact hs _ _ _ _ _ _ _ _ _ h1 h3
  have := key ds.length (Nat.le_refl _)
  rwa [List.take_length] at this
theorem countL_snoc (ds : List Syn) (d : Syn) : Syn.countL (ds ++ [d]) = Syn.countL ds + d.count := by
  induction ds with
  | nil => simp [Syn.countL]
  | cons e r ih => simp only [List.cons_append, Syn.countL, ih]; omega
theorem idL_length (ds acc : List Syn) : (idL ds acc).length ≤ acc.length + Syn.countL ds := by
  refine idL_ind (P := fun ds acc out => out.length ≤ acc.length + Syn.countL ds) (fun acc => by simp [Syn.countL]) (fun ds k n s x es acc cur out h1 h2 => ?_) ds acc
  have h4 := addI_length k n s x es cur
  rw [countL_snoc]; simp only [Syn.count]; omega
theorem addI_one {k n : Int} {s : ByteArray} {x : List Int} {ds acc : List Syn} (h : ∀ y ∈ acc, y.k = 1) : ∀ y ∈ addI k n s x ds acc, y.k = 1 := by
  unfold addI; split
  · rename_i hk
    intro y hy
    rcases List.mem_append.1 hy with hy | hy
    · exact h y hy
    · simp at hy; subst hy; exact hk.1
  · exact h
theorem idL_one {ds acc : List Syn} (h : ∀ y ∈ acc, y.k = 1) : ∀ y ∈ idL ds acc, y.k = 1 :=
  idL_ind (P := fun ds acc out => (∀ y ∈ acc, y.k = 1) → ∀ y ∈ out, y.k = 1) (fun acc h => h) (fun ds k n s x es acc cur out h1 h2 h => h2 (addI_one (h1 h))) ds acc h
theorem sym_items {n : Int} {s : ByteArray} {x : List Int} {ds : List Syn} (h : (Syn.mk 1 n s x ds).ok) : ds = [] := by
  have h1 := (Syn.ok_mk.1 h).1
  rw [nodeB, if_neg (by decide), if_pos rfl] at h1
  simp only [Bool.and_eq_true, decide_eq_true_eq] at h1
  have h2 := h1.2.2
  exact List.length_eq_zero_iff.1 (by omega)
theorem addI_places {k n : Int} {s : ByteArray} {x : List Int} {ds acc : List Syn} (h : (Syn.mk k n s x ds).ok) : Syn.placesL (addI k n s x ds acc) ≤ Syn.placesL acc + (3 + x.length) := by
  unfold addI; split
  · rename_i hk
    obtain ⟨rfl, _⟩ := hk
    have := sym_items h
    subst this
    rw [Syn.placesL_append]; simp [Syn.placesL, Syn.places]
  · omega
theorem idL_places {ds acc : List Syn} (h : ∀ d ∈ ds, d.ok) : Syn.placesL (idL ds acc) ≤ Syn.placesL acc + Syn.placesL ds := by
  refine idL_ind (P := fun ds acc out => (∀ d ∈ ds, d.ok) → Syn.placesL out ≤ Syn.placesL acc + Syn.placesL ds) (fun acc _ => by simp [Syn.placesL]) (fun ds k n s x es acc cur out h1 h2 h => ?_) ds acc h
  have hok := h (.mk k n s x es) (by simp)
  have h3 := h1 fun d hd => h d (by simp [hd])
  have h4 := h2 (Syn.ok_mk.1 hok).2.2
  have h5 := addI_places (acc := cur) hok
  rw [Syn.placesL_append]; simp only [Syn.placesL, Syn.places]; omega
noncomputable def idsOf (k n : Int) (s : ByteArray) (x : List Int) (ds : List Syn) : List Syn := if isSynB k n s x ds = true then idL ds (addI k n s x ds []) else []
theorem isSynB_ok' {k n : Int} {s : ByteArray} {x : List Int} {ds : List Syn} (h : isSynB k n s x ds = true) : (Syn.mk k n s x ds).ok := by classical (have h2 : IsSynP k n s x ds := by unfold isSynB at h; simpa using h); exact h2.2.2
theorem idsOf_places (k n : Int) (s : ByteArray) (x : List Int) (ds : List Syn) : Syn.placesL (idsOf k n s x ds) ≤ 3 + x.length + Syn.placesL ds := by
  unfold idsOf; split
  · rename_i hv
    have hok := isSynB_ok' hv
    have h1 := idL_places (acc := addI k n s x ds []) (Syn.ok_mk.1 hok).2.2
    have h2 := addI_places (acc := []) hok
    simp only [Syn.placesL] at h2
    omega
  · simp [Syn.placesL]
end Go.Proofs.Ytghbnehocggnnaa

/-
  Walks: IsSubset. No condition.
-/
set_option linter.unusedVariables false
set_option linter.unusedSimpArgs false
set_option maxRecDepth 100000
namespace Go.Proofs.Ytghbnehocggnnaa
open Go.RowKit

def subB (l r : List Int) : Bool := decide (∀ x ∈ l, x ∈ r)
theorem subB_iff (l r : List Int) : subB l r = true ↔ ∀ x ∈ l, x ∈ r := by simp [subB]
theorem subB_not {l r : List Int} {k : Nat} {x : Int} (hx : l[k]? = some x) (h : hasB r x = false) : subB l r = false := by
  rw [Bool.eq_false_iff]; intro hs
  exact (hasB_not r x).1 h ((subB_iff l r).1 hs x (List.mem_of_getElem? hx))
theorem sub_step {l r : List Int} {k : Nat} {x : Int} (h : ∀ y ∈ l.take k, y ∈ r) (hx : l[k]? = some x) (hr : hasB r x = true) : ∀ y ∈ l.take (k + 1), y ∈ r := by
  rw [take_snoc hx]
  intro y hy
  rcases List.mem_append.1 hy with hy | hy
  · exact h y hy
  · simp at hy; subst hy; exact (hasB_iff r y).1 hr

theorem iSubset_loop (a : Option Addr) (cap : Nat) (l : List Int) (a' : Option Addr) (cap' : Nat) (r : List Int) (w : World) (h : (M.sl a cap 1 3 (intM l)).In w) (h' : (M.sl a' cap' 1 3 (intM r)).In w) :
    Calls Try.prog 73 #[.slice a l.length cap, .slice a' r.length cap'] w (Ret (.bool (subB l r)) w) := by
  have hl := Ints.len h
  have hl' := Ints.len h'
  have H := Lib.hid h; clear h; have H' := Lib.hid h'; clear h'
  go_enter Try.func73, Try.ntmps73
  go_wp2_with fail
  go_loopw [9] (fun i wr => ∃ k : Nat, k ≤ l.length ∧ i = .int .i64 k ∧ (∀ y ∈ l.take k, y ∈ r) ∧ Below w.heap.size w wr ∧ w.heap.size ≤ wr.heap.size) (fun i _ => l.length - (intOf i).toNat)
  case atStart => exact ⟨0, Nat.zero_le _, rfl, by simp, Below.refl _ _, Nat.le_refl _⟩
  case round =>
    obtain ⟨k, hk, rfl, hpre, hb, hsz⟩ := hrel
    by_cases hlt : k < l.length
    · obtain ⟨b, off, x, rfl, hx, hc⟩ := Ints.elem (H.out.below hb) k hlt
      cases hr : hasB r x with
      | true =>
        have hpre2 := sub_step hpre hx hr
        have HPRE := Lib.hid hpre; clear hpre; have HX := Lib.hid hx; clear hx; have HPRE2 := Lib.hid hpre2; clear hpre2
        go_wp2_with fail
        refine (iHasScope_calls a' cap' r x _ (H'.out.below (by (repeat (first | with_reducible assumption | with_reducible exact Below.refl _ _ | with_reducible refine Below.drew ?_ | with_reducible refine belowDrewN ?_ _ | ((with_reducible refine Below.setCell ?_ ?_ _); rotate_left; focus (first | omega | (simp; done) | (simp; omega))) | ((with_reducible refine Below.alloc ?_ ?_ _); rotate_left; focus (first | omega | (simp; done) | (simp; omega))) | ((with_reducible refine Below.trans ?_ (Below.mono hb ?_)); rotate_left; focus (first | omega | (simp; done) | (simp; omega)))))))).mono ?_
        rintro e w1 ⟨rfl, rfl⟩
        go_wp2_with fail
        go_roundw
        case rel => exact ⟨k + 1, by omega, by go_num, HPRE2.out, hb, hsz⟩
        case measure => simp [intOf]; omega
      | false =>
        have hn := subB_not hx hr
        have HPRE := Lib.hid hpre; clear hpre; have HX := Lib.hid hx; clear hx
        go_wp2_with fail
        refine (iHasScope_calls a' cap' r x _ (H'.out.below (by (repeat (first | with_reducible assumption | with_reducible exact Below.refl _ _ | with_reducible refine Below.drew ?_ | with_reducible refine belowDrewN ?_ _ | ((with_reducible refine Below.setCell ?_ ?_ _); rotate_left; focus (first | omega | (simp; done) | (simp; omega))) | ((with_reducible refine Below.alloc ?_ ?_ _); rotate_left; focus (first | omega | (simp; done) | (simp; omega))) | ((with_reducible refine Below.trans ?_ (Below.mono hb ?_)); rotate_left; focus (first | omega | (simp; done) | (simp; omega)))))))).mono ?_
        rintro e w1 ⟨rfl, rfl⟩
        go_wp2_with fail
        go_ret
        exact ⟨ret_b hn.symm, by (repeat (first | with_reducible assumption | with_reducible exact Below.refl _ _ | with_reducible refine Below.drew ?_ | with_reducible refine belowDrewN ?_ _ | ((with_reducible refine Below.setCell ?_ ?_ _); rotate_left; focus (first | omega | (simp; done) | (simp; omega))) | ((with_reducible refine Below.alloc ?_ ?_ _); rotate_left; focus (first | omega | (simp; done) | (simp; omega))) | ((with_reducible refine Below.trans ?_ (Below.mono hb ?_)); rotate_left; focus (first | omega | (simp; done) | (simp; omega)))))⟩
    · have hk2 : k = l.length := by omega
      subst hk2
      have hs : subB l r = true := (subB_iff l r).2 (by rwa [List.take_length] at hpre)
      have HPRE := Lib.hid hpre; clear hpre
      go_wp2_with fail
      go_ret
      exact ⟨ret_b hs.symm, by (repeat (first | with_reducible assumption | with_reducible exact Below.refl _ _ | with_reducible refine Below.drew ?_ | with_reducible refine belowDrewN ?_ _ | ((with_reducible refine Below.setCell ?_ ?_ _); rotate_left; focus (first | omega | (simp; done) | (simp; omega))) | ((with_reducible refine Below.alloc ?_ ?_ _); rotate_left; focus (first | omega | (simp; done) | (simp; omega))) | ((with_reducible refine Below.trans ?_ (Below.mono hb ?_)); rotate_left; focus (first | omega | (simp; done) | (simp; omega)))))⟩

theorem iIsSubset_calls (a : Option Addr) (cap : Nat) (l : List Int) (a' : Option Addr) (cap' : Nat) (r : List Int) (w : World) (h : (M.sl a cap 1 3 (intM l)).In w) (h' : (M.sl a' cap' 1 3 (intM r)).In w) :
    Calls Try.prog 35 #[.slice a l.length cap, .slice a' r.length cap'] w (Ret (.bool (ssB l && ssB r && subB l r)) w) := by
  have H := Lib.hid h; clear h; have H' := Lib.hid h'; clear h'
  go_enter Try.func35, Try.ntmps35
  go_wp2_with fail
  refine (iIsScopeSet_calls a cap l _ H.out).mono ?_
  rintro e w1 ⟨rfl, hb1⟩
  obtain ⟨hc1, hf1⟩ := bcell hb1; have hz1 := hb1.size; (try simp only [World.size_alloc, World.size_setCell, World.size_drew, sizeDrewN] at hz1 hc1 hf1)
  cases hs : ssB l with
  | false =>
    go_wp2_with fail
    go_ret
    exact ⟨ret_b (by simp [hs]), by (repeat (first | with_reducible assumption | with_reducible exact Below.refl _ _ | with_reducible refine Below.drew ?_ | with_reducible refine belowDrewN ?_ _ | ((with_reducible refine Below.setCell ?_ ?_ _); rotate_left; focus (first | omega | (simp; done) | (simp; omega))) | ((with_reducible refine Below.alloc ?_ ?_ _); rotate_left; focus (first | omega | (simp; done) | (simp; omega))) | ((with_reducible refine Below.trans ?_ (Below.mono hb1 ?_)); rotate_left; focus (first | omega | (simp; done) | (simp; omega)))))⟩
  | true =>
    go_wp2_with fail
    refine (iIsScopeSet_calls a' cap' r _ (H'.out.below (by (repeat (first | with_reducible assumption | with_reducible exact Below.refl _ _ | with_reducible refine Below.drew ?_ | with_reducible refine belowDrewN ?_ _ | ((with_reducible refine Below.setCell ?_ ?_ _); rotate_left; focus (first | omega | (simp; done) | (simp; omega))) | ((with_reducible refine Below.alloc ?_ ?_ _); rotate_left; focus (first | omega | (simp; done) | (simp; omega))) | ((with_reducible refine Below.trans ?_ (Below.mono hb1 ?_)); rotate_left; focus (first | omega | (simp; done) | (simp; omega)))))))).mono ?_
    rintro e w2 ⟨rfl, hb2⟩
    obtain ⟨hc2, hf2⟩ := bcell hb2; have hz2 := hb2.size; (try simp only [World.size_alloc, World.size_setCell, World.size_drew, sizeDrewN] at hz2 hc2 hf2)
    cases hs' : ssB r with
    | false =>
      go_wp2_with fail
      go_ret
      exact ⟨ret_b (by simp [hs, hs']), by (repeat (first | with_reducible assumption | with_reducible exact Below.refl _ _ | with_reducible refine Below.drew ?_ | with_reducible refine belowDrewN ?_ _ | ((with_reducible refine Below.setCell ?_ ?_ _); rotate_left; focus (first | omega | (simp; done) | (simp; omega))) | ((with_reducible refine Below.alloc ?_ ?_ _); rotate_left; focus (first | omega | (simp; done) | (simp; omega))) | ((with_reducible refine Below.trans ?_ (Below.mono hb1 ?_)); rotate_left; focus (first | omega | (simp; done) | (simp; omega))) | ((with_reducible refine Below.trans ?_ (Below.mono hb2 ?_)); rotate_left; focus (first | omega | (simp; done) | (simp; omega)))))⟩
    | true =>
      go_wp2_with fail
      refine (iSubset_loop a cap l a' cap' r _ (H.out.below (by (repeat (first | with_reducible assumption | with_reducible exact Below.refl _ _ | with_reducible refine Below.drew ?_ | with_reducible refine belowDrewN ?_ _ | ((with_reducible refine Below.setCell ?_ ?_ _); rotate_left; focus (first | omega | (simp; done) | (simp; omega))) | ((with_reducible refine Below.alloc ?_ ?_ _); rotate_left; focus (first | omega | (simp; done) | (simp; omega))) | ((with_reducible refine Below.trans ?_ (Below.mono hb1 ?_)); rotate_left; focus (first | omega | (simp; done) | (simp; omega))) | ((with_reducible refine Below.trans ?_ (Below.mono hb2 ?_)); rotate_left; focus (first | omega | (simp; done) | (simp; omega))))))) (H'.out.below (by (repeat (first | with_reducible assumption | with_reducible exact Below.refl _ _ | with_reducible refine Below.drew ?_ | with_reducible refine belowDrewN ?_ _ | ((with_reducible refine Below.setCell ?_ ?_ _); rotate_left; focus (first | omega | (simp; done) | (simp; omega))) | ((with_reducible refine Below.alloc ?_ ?_ _); rotate_left; focus (first | omega | (simp; done) | (simp; omega))) | ((with_reducible refine Below.trans ?_ (Below.mono hb1 ?_)); rotate_left; focus (first | omega | (simp; done) | (simp; omega))) | ((with_reducible refine Below.trans ?_ (Below.mono hb2 ?_)); rotate_left; focus (first | omega | (simp; done) | (simp; omega)))))))).mono ?_
      rintro e w3 ⟨rfl, hb3⟩
      obtain ⟨hc3, hf3⟩ := bcell hb3; have hz3 := hb3.size; (try simp only [World.size_alloc, World.size_setCell, World.size_drew, sizeDrewN] at hz3 hc3 hf3)
      go_wp2_with fail
      go_ret
      exact ⟨ret_b (by simp [hs, hs']), by (repeat (first | with_reducible assumption | with_reducible exact Below.refl _ _ | with_reducible refine Below.drew ?_ | with_reducible refine belowDrewN ?_ _ | ((with_reducible refine Below.setCell ?_ ?_ _); rotate_left; focus (first | omega | (simp; done) | (simp; omega))) | ((with_reducible refine Below.alloc ?_ ?_ _); rotate_left; focus (first | omega | (simp; done) | (simp; omega))) | ((with_reducible refine Below.trans ?_ (Below.mono hb1 ?_)); rotate_left; focus (first | omega | (simp; done) | (simp; omega))) | ((with_reducible refine Below.trans ?_ (Below.mono hb2 ?_)); rotate_left; focus (first | omega | (simp; done) | (simp; omega))) | ((with_reducible refine Below.trans ?_ (Below.mono hb3 ?_)); rotate_left; focus (first | omega | (simp; done) | (simp; omega)))))⟩
end Go.Proofs.Ytghbnehocggnnaa

/-
  Plain law: a scope put into a set of scopes, and taken out. No condition.
-/
set_option linter.unusedVariables false
set_option linter.unusedSimpArgs false
namespace Go.Proofs.Ytghbnehocggnnaa

def PutInv (n : Int) (p : List Int) (st : List Int × Bool) : Prop :=
  st.1.Pairwise (· < ·) ∧ (st.2 = false → st.1 = p ∧ ∀ x ∈ p, x < n) ∧ (st.2 = true → (∀ z, z ∈ st.1 ↔ z ∈ p ∨ z = n) ∧ ∃ y ∈ p, n ≤ y)
theorem PutInv.step {n x : Int} {p : List Int} {st : List Int × Bool} (h : PutInv n p st) (hx : ∀ y ∈ p, y < x) : PutInv n (p ++ [x]) (putStep n st x) := by
  obtain ⟨o, d⟩ := st
  obtain ⟨h1, h2, h3⟩ := h
  simp only at h1 h2 h3
  cases d with
  | false =>
    obtain ⟨rfl, hlt⟩ := h2 rfl
    by_cases hn : n ≤ x
    · by_cases hn2 : n < x
      · have he : putStep n (o, false) x = (o ++ [n] ++ [x], true) := by simp [putStep, hn, hn2]
        rw [he]
        refine ⟨?_, fun h => by simp at h, fun _ => ⟨fun z => ?_, x, by simp, hn⟩⟩
        · simp only [List.pairwise_append, List.pairwise_singleton, List.mem_append, List.mem_singleton]
          refine ⟨⟨h1, trivial, fun a ha b hb => by subst hb; exact hlt a ha⟩, trivial, fun a ha b hb => by
            subst hb
            rcases ha with ha | ha
            · exact hx a ha
            · subst ha; exact hn2⟩
        · simp [List.mem_append]; grind
      · have he : putStep n (o, false) x = (o ++ [x], true) := by simp [putStep, hn, hn2]
        have hxn : x = n := by omega
        rw [he]
        refine ⟨?_, fun h => by simp at h, fun _ => ⟨fun z => ?_, x, by simp, hn⟩⟩
        · simp only [List.pairwise_append, List.pairwise_singleton, List.mem_singleton]
          exact ⟨h1, trivial, fun a ha b hb => by subst hb; exact hx a ha⟩
        · subst hxn; simp [List.mem_append]
    · have he : putStep n (o, false) x = (o ++ [x], false) := by simp [putStep, hn]
      rw [he]
      refine ⟨?_, fun _ => ⟨rfl, fun y hy => ?_⟩, fun h => by simp at h⟩
      · simp only [List.pairwise_append, List.pairwise_singleton, List.mem_singleton]
        exact ⟨h1, trivial, fun a ha b hb => by subst hb; exact hx a ha⟩
      · rcases List.mem_append.1 hy with hy | hy
        · exact hlt y hy
        · simp at hy; subst hy; omega
  | true =>
    obtain ⟨hm, y, hy, hny⟩ := h3 rfl
    have he : putStep n (o, true) x = (o ++ [x], true) := by simp [putStep]
    rw [he]
    refine ⟨?_, fun h => by simp at h, fun _ => ⟨fun z => ?_, y, by simp [hy], hny⟩⟩
    · simp only [List.pairwise_append, List.pairwise_singleton, List.mem_singleton]
      refine ⟨h1, trivial, fun a ha b hb => ?_⟩
      subst hb
      rcases (hm a).1 ha with h | h
      · exact hx a h
      · have := hx y hy; omega
    · simp only [List.mem_append, List.mem_singleton, hm]; grind
theorem putInv (n : Int) {l : List Int} (hl : l.Pairwise (· < ·)) : ∀ k, k ≤ l.length → PutInv n (l.take k) (putSt n (l.take k))
  | 0, _ => ⟨by simp [putSt], fun _ => ⟨by simp [putSt], by simp⟩, fun h => by simp [putSt] at h⟩
  | k + 1, hk => by
    have hx : l[k]? = some l[k] := List.getElem?_eq_getElem (by omega)
    rw [putSt_succ hx, take_snoc hx]
    refine (putInv n hl k (by omega)).step fun y hy => ?_
    obtain ⟨i, hi, rfl⟩ := List.mem_iff_getElem.1 hy
    have hik : i < k := by simp at hi; omega
    rw [List.getElem_take]
    exact List.pairwise_iff_getElem.1 hl i k (by omega) (by omega) hik
theorem put_spec (n : Int) {l : List Int} (hl : l.Pairwise (· < ·)) : (put n l).Pairwise (· < ·) ∧ ∀ z, z ∈ put n l ↔ z ∈ l ∨ z = n := by
  have h := putInv n hl l.length (Nat.le_refl _)
  rw [List.take_length] at h
  obtain ⟨h1, h2, h3⟩ := h
  unfold put
  cases hd : (putSt n l).2 with
  | true => exact ⟨by simpa using h1, by simpa using (h3 hd).1⟩
  | false =>
    obtain ⟨e, hlt⟩ := h2 hd
    rw [e] at h1 ⊢
    refine ⟨?_, fun z => by simp⟩
    simp only [Bool.false_eq_true, if_false, List.pairwise_append, List.pairwise_singleton, List.mem_singleton]
    exact ⟨h1, trivial, fun a ha b hb => by subst hb; exact hlt a ha⟩
theorem kind_range {n : Int} (h : ¬ kindS n = 0) : 1 ≤ n ∧ n ≤ 99999 := Classical.not_not.1 fun hn => h ((kindS_zero n).2 hn)
theorem put_asc {n : Int} {l : List Int} (hl : Asc l) (hn : ¬ kindS n = 0) : Asc (put n l) := by
  obtain ⟨h1, h2⟩ := put_spec n hl.2
  refine ⟨fun x hx => ?_, h1⟩
  rcases (h2 x).1 hx with h | h
  · exact hl.1 x h
  · subst h; exact kind_range hn
theorem dropN_mem {n : Int} {l : List Int} {z : Int} : z ∈ dropN n l ↔ z ∈ l ∧ ¬ z = n := by simp [dropN]
theorem dropN_asc {n : Int} {l : List Int} (hl : Asc l) : Asc (dropN n l) := ⟨fun x hx => hl.1 x (dropN_mem.1 hx).1, List.Pairwise.sublist (List.filter_sublist ..) hl.2⟩
theorem dropN_length_mem : ∀ {l : List Int} {n : Int}, l.Pairwise (· < ·) → n ∈ l → l.length = (dropN n l).length + 1
  | [], n, _, h => by cases h
  | x :: r, n, hp, h => by
    rw [List.pairwise_cons] at hp
    by_cases hx : x = n
    · subst hx
      have : dropN x (x :: r) = r := by
        unfold dropN
        rw [List.filter_cons_of_neg (by simp)]
        exact List.filter_eq_self.2 fun y hy => by have := hp.1 y hy; simp; omega
      rw [this, List.length_cons]
    · have hm : n ∈ r := by rcases List.mem_cons.1 h with h | h; exact absurd h.symm hx; exact h
      have : dropN n (x :: r) = x :: dropN n r := by unfold dropN; rw [List.filter_cons_of_pos (by simp [hx])]
      rw [this, List.length_cons, List.length_cons, dropN_length_mem hp.2 hm]
end Go.Proofs.Ytghbnehocggnnaa

/-
  Plain law: scopes added, flipped, struck; the datum of a piece of syntax and the syntax of a datum. No condition.
-/
set_option linter.unusedVariables false
set_option linter.unusedSimpArgs false
set_option maxRecDepth 100000
namespace Go.Proofs.Ytghbnehocggnnaa
open Go.RowKit

theorem asc_ext : ∀ {a b : List Int}, a.Pairwise (· < ·) → b.Pairwise (· < ·) → (∀ z, z ∈ a ↔ z ∈ b) → a = b
  | [], [], _, _, _ => rfl
  | [], y :: t, _, _, h => absurd ((h y).2 (List.mem_cons_self ..)) (by simp)
  | x :: r, [], _, _, h => absurd ((h x).1 (List.mem_cons_self ..)) (by simp)
  | x :: r, y :: t, ha, hb, h => by
    rw [List.pairwise_cons] at ha hb
    have hxy : x = y := by
      have h1 := (h x).1 (List.mem_cons_self ..)
      have h2 := (h y).2 (List.mem_cons_self ..)
      rcases List.mem_cons.1 h1 with h1 | h1
      · exact h1
      rcases List.mem_cons.1 h2 with h2 | h2
      · exact h2.symm
      have := hb.1 x h1
      have := ha.1 y h2
      omega
    subst hxy
    rw [asc_ext ha.2 hb.2 fun z => ?_]
    constructor
    · intro hz
      rcases List.mem_cons.1 ((h z).1 (List.mem_cons_of_mem _ hz)) with h1 | h1
      · subst h1; have := ha.1 z hz; omega
      · exact h1
    · intro hz
      rcases List.mem_cons.1 ((h z).2 (List.mem_cons_of_mem _ hz)) with h1 | h1
      · subst h1; have := hb.1 z hz; omega
      · exact h1
theorem put_put {m : Int} {x : List Int} (hx : ssB x = true) : put m (put m x) = put m x := by
  have h := (ssB_iff x).1 hx
  obtain ⟨h1, h2⟩ := put_spec m h.2
  obtain ⟨h3, h4⟩ := put_spec m h1
  refine asc_ext h3 h1 fun z => ?_
  rw [h4, h2]
  grind
theorem flip_flip {m : Int} {x : List Int} (hm : ¬ kindS m = 0) (hx : ssB x = true) : flipSo m (flipSo m x) = x := by
  have h := (ssB_iff x).1 hx
  have e1 : flipSo m x = flipL x m := by unfold flipSo flipS; rw [if_pos ⟨hx, hm⟩]
  rw [e1]
  cases hb : hasB x m with
  | true =>
    have e2 : flipL x m = dropN m x := by unfold flipL; rw [if_pos hb]
    rw [e2]
    have hd := dropN_asc (n := m) h
    have hnb : hasB (dropN m x) m = false := (hasB_not _ _).2 fun hc => (dropN_mem.1 hc).2 rfl
    have e3 : flipSo m (dropN m x) = put m (dropN m x) := by
      unfold flipSo flipS; rw [if_pos ⟨(ssB_iff _).2 hd, hm⟩]; unfold flipL; rw [if_neg (by rw [hnb]; decide)]
    rw [e3]
    obtain ⟨h1, h2⟩ := put_spec m hd.2
    refine asc_ext h1 h.2 fun z => ?_
    rw [h2, dropN_mem]
    have := (hasB_iff x m).1 hb
    grind
  | false =>
    have e2 : flipL x m = put m x := by unfold flipL; rw [if_neg (by rw [hb]; decide)]
    rw [e2]
    have hd := put_asc (n := m) h hm
    obtain ⟨h1, h2⟩ := put_spec m h.2
    have hnb : hasB (put m x) m = true := (hasB_iff _ _).2 ((h2 m).2 (.inr rfl))
    have e3 : flipSo m (put m x) = dropN m (put m x) := by
      unfold flipSo flipS; rw [if_pos ⟨(ssB_iff _).2 hd, hm⟩]; unfold flipL; rw [if_pos hnb]
    rw [e3]
    refine asc_ext (dropN_asc hd).2 h.2 fun z => ?_
    rw [dropN_mem, h2]
    have := (hasB_not x m).1 hb
    grind
theorem put_ss {m : Int} {x : List Int} (hm : ¬ kindS m = 0) (hx : ssB x = true) : ssB (put m x) = true := (ssB_iff _).2 (put_asc ((ssB_iff x).1 hx) hm)
theorem flip_ss {m : Int} {x : List Int} (hm : ¬ kindS m = 0) (hx : ssB x = true) : ssB (flipSo m x) = true := by
  have h := (ssB_iff x).1 hx
  unfold flipSo flipS
  rw [if_pos ⟨hx, hm⟩]
  unfold flipL
  split
  · exact (ssB_iff _).2 (dropN_asc h)
  · exact (ssB_iff _).2 (put_asc h hm)
theorem woUse_ss {x : List Int} (hx : ssB x = true) : ssB (woUse x) = true := by
  have h := (ssB_iff x).1 hx
  unfold woUse
  rw [if_pos hx]
  exact (ssB_iff _).2 ⟨fun z hz => h.1 z (List.mem_filter.1 hz).1, List.Pairwise.sublist (List.filter_sublist ..) h.2⟩
theorem mapSynL_comp (F G : List Int → List Int) (ds : List Syn) : mapSynL G (mapSynL F ds) = mapSynL (fun x => G (F x)) ds := by
  refine Syn.inductL (P := fun ds => mapSynL G (mapSynL F ds) = mapSynL (fun x => G (F x)) ds) (fun ds ih => ?_) ds
  induction ds with
  | nil => rfl
  | cons d r ihr =>
    obtain ⟨k, n, s, x, es⟩ := d
    have h1 := ih k n s x es (List.mem_cons_self ..)
    have h2 := ihr fun k n s x es hm => ih k n s x es (List.mem_cons_of_mem _ hm)
    have h3 : mapX G k (mapX F k x) = mapX (fun x => G (F x)) k x := by unfold mapX; split <;> rfl
    simp only [mapSynL, mapSyn, h1, h2, h3]
theorem mapSynL_len (F : List Int → List Int) : ∀ ds : List Syn, (mapSynL F ds).length = ds.length
  | [] => rfl
  | d :: r => by simp only [mapSynL, List.length_cons, mapSynL_len F r]
theorem mapSynL_shape (F : List Int → List Int) (ds : List Syn) : Syn.countL (mapSynL F ds) = Syn.countL ds ∧ Syn.depthL (mapSynL F ds) = Syn.depthL ds ∧ datOfL (mapSynL F ds) = datOfL ds := by
  refine Syn.inductL (P := fun ds => Syn.countL (mapSynL F ds) = Syn.countL ds ∧ Syn.depthL (mapSynL F ds) = Syn.depthL ds ∧ datOfL (mapSynL F ds) = datOfL ds) (fun ds ih => ?_) ds
  induction ds with
  | nil => exact ⟨rfl, rfl, rfl⟩
  | cons d r ihr =>
    obtain ⟨k, n, s, x, es⟩ := d
    obtain ⟨h1, h2, h3⟩ := ih k n s x es (List.mem_cons_self ..)
    obtain ⟨g1, g2, g3⟩ := ihr fun k n s x es hm => ih k n s x es (List.mem_cons_of_mem _ hm)
    simp only [mapSynL, mapSyn, Syn.countL, Syn.count, Syn.depthL, Syn.depth, datOfL, datOf, h1, h2, h3, g1, g2, g3, and_self]
theorem map_scB {F : List Int → List Int} (hF : ∀ x, ssB x = true → ssB (F x) = true) {k : Int} {x : List Int} (h : scB k x = true) : scB k (mapX F k x) = true := by
  by_cases hk : k = 1
  · subst hk
    rw [mapX_one]
    simp only [scB, Bool.and_eq_true, Bool.or_eq_true, decide_eq_true_eq] at h ⊢
    exact ⟨hF x h.1, .inr trivial⟩
  · rw [mapX_other hk]; exact h
theorem map_okL {F : List Int → List Int} (hF : ∀ x, ssB x = true → ssB (F x) = true) (ds : List Syn) (h : Syn.okL ds) : Syn.okL (mapSynL F ds) := by
  revert h
  refine Syn.inductL (P := fun ds => Syn.okL ds → Syn.okL (mapSynL F ds)) (fun ds ih => ?_) ds
  induction ds with
  | nil => intro _; trivial
  | cons d r ihr =>
    obtain ⟨k, n, s, x, es⟩ := d
    rintro ⟨⟨h1, h2, h3⟩, h4⟩
    refine ⟨⟨by rw [mapSynL_len]; exact h1, map_scB hF h2, ih k n s x es (List.mem_cons_self ..) h3⟩, ihr (fun k n s x es hm => ih k n s x es (List.mem_cons_of_mem _ hm)) h4⟩
theorem map_isSyn {F : List Int → List Int} (hF : ∀ x, ssB x = true → ssB (F x) = true) {k n : Int} {s : ByteArray} {x : List Int} {ds : List Syn} (h : isSynB k n s x ds = true) : isSynB k n s (mapX F k x) (mapSynL F ds) = true := by
  obtain ⟨h1, h2, h3, h4, h5⟩ := isSynB_iff.1 h
  obtain ⟨g1, g2, _⟩ := mapSynL_shape F ds
  exact isSynB_yes ⟨by rw [g1]; exact h1, by rw [g2]; exact h2, by rw [mapSynL_len]; exact h3, map_scB hF h4, map_okL hF ds h5⟩
/-- mapped if b says so: as right as before -/
theorem mapG_isSyn {F : List Int → List Int} {b : Bool} {k n : Int} {s : ByteArray} {x : List Int} {ds : List Syn} (hb : b = true → isSynB k n s x ds = true ∧ ∀ x, ssB x = true → ssB (F x) = true) :
    isSynB k n s (mapGx b F k x) (mapGd b F ds) = isSynB k n s x ds := by
  cases b with
  | false => rw [mapGx_no, mapGd_no]
  | true =>
    obtain ⟨h1, h2⟩ := hb rfl
    rw [mapGx_yes, mapGd_yes, h1, map_isSyn h2 h1]
theorem mapG_dat (F : List Int → List Int) {b : Bool} {k n : Int} {s : ByteArray} {x : List Int} {ds : List Syn} (hb : b = true → isSynB k n s x ds = true ∧ ∀ x, ssB x = true → ssB (F x) = true) :
    datG k n s (mapGx b F k x) (mapGd b F ds) = datG k n s x ds := by
  unfold datG
  rw [mapG_isSyn hb]
  have : datOfL (mapGd b F ds) = datOfL ds := by
    cases b with
    | false => rw [mapGd_no]
    | true => rw [mapGd_yes, (mapSynL_shape F ds).2.2]
  rw [this]
theorem mapG_count (F : List Int → List Int) (b : Bool) (ds : List Syn) : Syn.countL (mapGd b F ds) = Syn.countL ds := by
  cases b with
  | false => rw [mapGd_no]
  | true => rw [mapGd_yes, (mapSynL_shape F ds).1]
/-- mapped twice -/
theorem mapG_twice {F G H : List Int → List Int} (hFG : ∀ x, ssB x = true → G (F x) = H x) {b : Bool} {k n : Int} {s : ByteArray} {x : List Int} {ds : List Syn} (hb : b = true → isSynB k n s x ds = true) :
    mapGx b G k (mapGx b F k x) = mapGx b H k x ∧ mapGd b G (mapGd b F ds) = mapGd b H ds := by
  cases b with
  | false => exact ⟨rfl, rfl⟩
  | true =>
    obtain ⟨_, _, _, h4, h5⟩ := isSynB_iff.1 (hb rfl)
    simp only [mapGx_yes, mapGd_yes]
    refine ⟨?_, by rw [mapSynL_comp]; exact mapSynL_ok hFG ds h5⟩
    unfold mapX
    split
    · simp only [scB, Bool.and_eq_true] at h4; exact hFG x h4.1
    · rfl
theorem mapG_id (b : Bool) (k : Int) (x : List Int) (ds : List Syn) : mapGx b id k x = x ∧ mapGd b id ds = ds := by
  cases b with
  | false => exact ⟨rfl, rfl⟩
  | true => exact ⟨mapX_id k x, mapSynL_id ds⟩
noncomputable def scOk (k n : Int) (s : ByteArray) (x : List Int) (ds : List Syn) (m : Int) : Bool := isSynB k n s x ds && !(kindS m == 0)
theorem scOk_iff {k n : Int} {s : ByteArray} {x : List Int} {ds : List Syn} {m : Int} : scOk k n s x ds m = true ↔ isSynB k n s x ds = true ∧ ¬ kindS m = 0 := by simp [scOk]
theorem scOk_put {k n : Int} {s : ByteArray} {x : List Int} {ds : List Syn} {m : Int} : scOk k n s x ds m = true → isSynB k n s x ds = true ∧ ∀ x, ssB x = true → ssB (put m x) = true := fun h => ⟨(scOk_iff.1 h).1, fun _ hx => put_ss (scOk_iff.1 h).2 hx⟩
theorem scOk_flip {k n : Int} {s : ByteArray} {x : List Int} {ds : List Syn} {m : Int} : scOk k n s x ds m = true → isSynB k n s x ds = true ∧ ∀ x, ssB x = true → ssB (flipSo m x) = true := fun h => ⟨(scOk_iff.1 h).1, fun _ hx => flip_ss (scOk_iff.1 h).2 hx⟩
/-- a scope added twice -/
theorem add_twice (k n : Int) (s : ByteArray) (x : List Int) (ds : List Syn) (m : Int) :
    let b := scOk k n s x ds m
    scOk k n s (mapGx b (put m) k x) (mapGd b (put m) ds) m = b ∧ mapGx b (put m) k (mapGx b (put m) k x) = mapGx b (put m) k x ∧ mapGd b (put m) (mapGd b (put m) ds) = mapGd b (put m) ds := by
  intro b
  have h1 := mapG_isSyn (F := put m) (b := b) (k := k) (n := n) (s := s) (x := x) (ds := ds) scOk_put
  obtain ⟨h2, h3⟩ := mapG_twice (F := put m) (G := put m) (H := put m) (b := b) (k := k) (n := n) (s := s) (x := x) (ds := ds) (fun x hx => put_put hx) (fun h => (scOk_put h).1)
  exact ⟨by unfold scOk; rw [h1]; rfl, h2, h3⟩
/-- a scope flipped twice -/
theorem flip_twice (k n : Int) (s : ByteArray) (x : List Int) (ds : List Syn) (m : Int) :
    let b := scOk k n s x ds m
    scOk k n s (mapGx b (flipSo m) k x) (mapGd b (flipSo m) ds) m = b ∧ mapGx b (flipSo m) k (mapGx b (flipSo m) k x) = x ∧ mapGd b (flipSo m) (mapGd b (flipSo m) ds) = ds := by
  intro b
  have h1 := mapG_isSyn (F := flipSo m) (b := b) (k := k) (n := n) (s := s) (x := x) (ds := ds) scOk_flip
  refine ⟨by unfold scOk; rw [h1]; rfl, ?_⟩
  cases hb : b with
  | false => exact ⟨rfl, rfl⟩
  | true =>
    have hm := (scOk_iff.1 hb).2
    obtain ⟨h2, h3⟩ := mapG_twice (F := flipSo m) (G := flipSo m) (H := id) (b := true) (k := k) (n := n) (s := s) (x := x) (ds := ds) (fun x hx => flip_flip hm hx) (fun _ => (scOk_iff.1 hb).1)
    obtain ⟨h4, h5⟩ := mapG_id true k x ds
    exact ⟨h2.trans h4, h3.trans h5⟩
mutual
def NoU : Syn → Prop
  | .mk k n s x ds => (k = 1 → ∀ z ∈ x, ¬ kindS z = 3) ∧ NoUL ds
def NoUL : List Syn → Prop
  | [] => True
  | d :: r => NoU d ∧ NoUL r
end
theorem addI_noU {k n : Int} {s : ByteArray} {x : List Int} {ds acc : List Syn} (h : k = 1 → ∀ z ∈ x, ¬ kindS z = 3) (ha : ∀ d ∈ acc, ∀ z ∈ d.x, ¬ kindS z = 3) : ∀ d ∈ addI k n s x ds acc, ∀ z ∈ d.x, ¬ kindS z = 3 := by
  unfold addI
  split
  · rename_i hk
    intro d hd
    rcases List.mem_append.1 hd with h1 | h1
    · exact ha d h1
    · simp only [List.mem_singleton] at h1; subst h1; exact h hk.1
  · exact ha
theorem idL_noU (ds : List Syn) : NoUL ds → ∀ acc : List Syn, (∀ d ∈ acc, ∀ z ∈ d.x, ¬ kindS z = 3) → ∀ d ∈ idL ds acc, ∀ z ∈ d.x, ¬ kindS z = 3 := by
  refine Syn.inductL (P := fun ds => NoUL ds → ∀ acc : List Syn, (∀ d ∈ acc, ∀ z ∈ d.x, ¬ kindS z = 3) → ∀ d ∈ idL ds acc, ∀ z ∈ d.x, ¬ kindS z = 3) (fun ds ih => ?_) ds
  induction ds with
  | nil => intro _ acc ha; simpa [idL] using ha
  | cons d r ihr =>
    obtain ⟨k, n, s, x, es⟩ := d
    rintro ⟨⟨h1, h2⟩, h3⟩ acc ha
    have g1 := ih k n s x es (List.mem_cons_self ..) h2 _ (addI_noU (n := n) (s := s) (ds := es) h1 ha)
    have g2 := ihr (fun k n s x es hm => ih k n s x es (List.mem_cons_of_mem _ hm)) h3 _ g1
    simpa only [idL, idD] using g2
theorem woUse_noU {x : List Int} (hx : ssB x = true) : ∀ z ∈ woUse x, ¬ kindS z = 3 := by
  unfold woUse
  rw [if_pos hx]
  intro z hz
  have := (List.mem_filter.1 hz).2
  simpa using this
theorem map_noUL (ds : List Syn) (h : Syn.okL ds) : NoUL (mapSynL woUse ds) := by
  revert h
  refine Syn.inductL (P := fun ds => Syn.okL ds → NoUL (mapSynL woUse ds)) (fun ds ih => ?_) ds
  induction ds with
  | nil => intro _; trivial
  | cons d r ihr =>
    obtain ⟨k, n, s, x, es⟩ := d
    rintro ⟨h1, h4⟩
    refine ⟨⟨fun hk => ?_, ih k n s x es (List.mem_cons_self ..) h1.2.2⟩, ihr (fun k n s x es hm => ih k n s x es (List.mem_cons_of_mem _ hm)) h4⟩
    subst hk
    rw [mapX_one]
    exact woUse_noU (Syn.ok_set h1)
/-- identifiers without uses -/
theorem ids_noUse (k n : Int) (s : ByteArray) (x : List Int) (ds : List Syn) :
    ∀ d ∈ idsOf k n s (mapGx (isSynB k n s x ds) woUse k x) (mapGd (isSynB k n s x ds) woUse ds), ∀ z ∈ d.x, ¬ kindS z = 3 := by
  have h1 := mapG_isSyn (F := woUse) (b := isSynB k n s x ds) (k := k) (n := n) (s := s) (x := x) (ds := ds) (fun h => ⟨h, fun _ hx => woUse_ss hx⟩)
  unfold idsOf
  rw [h1]
  cases hb : isSynB k n s x ds with
  | false => intro d hd; simp at hd
  | true =>
    obtain ⟨_, _, h3, h4, h5⟩ := isSynB_iff.1 hb
    rw [if_pos rfl, mapGx_yes, mapGd_yes]
    refine idL_noU _ (map_noUL ds h5) _ (addI_noU (fun hk => ?_) (fun d hd => by cases hd))
    subst hk
    rw [mapX_one]
    simp only [scB, Bool.and_eq_true] at h4
    exact woUse_noU h4.1
theorem strip_isSyn (k n : Int) (s : ByteArray) (x : List Int) (ds : List Syn) : isSynB k n s (mapGx (isSynB k n s x ds) woUse k x) (mapGd (isSynB k n s x ds) woUse ds) = isSynB k n s x ds :=
  mapG_isSyn (fun h => ⟨h, fun _ hx => woUse_ss hx⟩)
/-- the syntax of a datum is right, and its datum is the datum -/
theorem synOfL_dat (ds : List Dat) : datOfL (synOfL ds) = ds ∧ Syn.countL (synOfL ds) = Dat.countL ds ∧ Syn.depthL (synOfL ds) = Dat.depthL ds ∧ (synOfL ds).length = ds.length ∧ ((Dat.okL ds) → Syn.okL (synOfL ds)) := by
  refine Dat.inductL (P := fun ds => datOfL (synOfL ds) = ds ∧ Syn.countL (synOfL ds) = Dat.countL ds ∧ Syn.depthL (synOfL ds) = Dat.depthL ds ∧ (synOfL ds).length = ds.length ∧ ((Dat.okL ds) → Syn.okL (synOfL ds))) (fun ds ih => ?_) ds
  induction ds with
  | nil => exact ⟨rfl, rfl, rfl, rfl, fun _ => trivial⟩
  | cons d r ihr =>
    obtain ⟨k, n, s, es⟩ := d
    obtain ⟨h1, h2, h3, h4, h5⟩ := ih k n s es (List.mem_cons_self ..)
    obtain ⟨g1, g2, g3, g4, g5⟩ := ihr fun k n s es hm => ih k n s es (List.mem_cons_of_mem _ hm)
    refine ⟨by simp only [synOfL, synOf, datOfL, datOf, h1, g1], by simp only [synOfL, synOf, Syn.countL, Syn.count, Dat.countL, Dat.count, h2, g2], by simp only [synOfL, synOf, Syn.depthL, Syn.depth, Dat.depthL, Dat.depth, h3, g3], by simp only [synOfL, List.length_cons, g4], ?_⟩
    rintro ⟨⟨o1, o2⟩, o3⟩
    simp only [synOfL, synOf]
    exact ⟨⟨by rw [h4]; exact o1, by simp [scB, ssB, Asc], h5 o2⟩, g5 o3⟩
theorem synG_dat {k n : Int} {s : ByteArray} {ds : List Dat} (h : isDatB k n s ds = true) : isSynB k n s [] (synOfL ds) = true ∧ datG k n s [] (synOfL ds) = .mk k n s ds := by
  have hp : IsDatP k n s ds := by simpa [isDatB] using h
  obtain ⟨h1, h2, h3⟩ := hp
  obtain ⟨g1, g2, g3, g4, g5⟩ := synOfL_dat ds
  have hv : isSynB k n s [] (synOfL ds) = true := isSynB_yes ⟨by rw [g2]; omega, by rw [g3]; omega, by rw [g4]; exact h3.1, by simp [scB, ssB, Asc], g5 h3.2⟩
  exact ⟨hv, by rw [datG_yes hv, g1]⟩
end Go.Proofs.Ytghbnehocggnnaa

/-
  Plain law: sizes of drawn pieces of syntax whose scopes have been changed. No condition.
-/
set_option linter.unusedVariables false
set_option linter.unusedSimpArgs false
set_option maxRecDepth 100000
namespace Go.Proofs.Ytghbnehocggnnaa
open Go.RowKit

mutual
/-- numbers of the machine, texts of at most 100 bytes, at most 40 scopes -/
def Syn.wf3 : Syn → Prop
  | .mk k n s x ds => I64 k ∧ I64 n ∧ s.size ≤ 100 ∧ x.length ≤ 40 ∧ (∀ z ∈ x, I64 z) ∧ Syn.wf3L ds
def Syn.wf3L : List Syn → Prop
  | [] => True
  | d :: ds => d.wf3 ∧ Syn.wf3L ds
end
mutual
theorem Syn.wf3.wf : ∀ {d : Syn}, d.wf3 → d.wf
  | .mk _ _ _ _ _, h => ⟨h.1, h.2.1, Nat.le_trans h.2.2.1 (by decide), h.2.2.2.2.1, Syn.wf3L.wfL h.2.2.2.2.2⟩
theorem Syn.wf3L.wfL : ∀ {ds : List Syn}, Syn.wf3L ds → Syn.wfL ds
  | [], _ => trivial
  | _ :: _, h => ⟨Syn.wf3.wf h.1, Syn.wf3L.wfL h.2⟩
end
mutual
theorem Syn.wf1.wf3 : ∀ {d : Syn}, d.wf1 → d.wf3
  | .mk _ _ _ _ _, h => ⟨h.1, h.2.1, h.2.2.1, Nat.le_trans h.2.2.2.1 (by decide), h.2.2.2.2.1.I64, Syn.wf1L.wf3L h.2.2.2.2.2⟩
theorem Syn.wf1L.wf3L : ∀ {ds : List Syn}, Syn.wf1L ds → Syn.wf3L ds
  | [], _ => trivial
  | _ :: _, h => ⟨Syn.wf1.wf3 h.1, Syn.wf1L.wf3L h.2⟩
end
theorem Syn.wf3L_wt : ∀ ds : List Syn, Syn.wf3L ds → ds.length + Syn.wtX ds ≤ 141 * Syn.countL ds := by
  refine Syn.inductL fun ds ih hw => ?_
  induction ds with
  | nil => simp [Syn.wtX]
  | cons d r ihr =>
    obtain ⟨k, n, s, x, es⟩ := d
    obtain ⟨⟨_, _, hs, hx, _, he⟩, hr⟩ := hw
    have h1 := ih k n s x es (List.mem_cons_self ..) he
    have h2 := ihr (fun k n s x es hm => ih k n s x es (List.mem_cons_of_mem _ hm)) hr
    simp only [List.length_cons, Syn.wtX, Syn.wt, Syn.countL, Syn.count]
    omega
theorem Syn.wf3.wt_le {k n : Int} {s : ByteArray} {x : List Int} {ds : List Syn} (h : (Syn.mk k n s x ds).wf3) (hc : 1 + Syn.countL ds ≤ 400) : s.size + (x.length + (ds.length + Syn.wtX ds)) ≤ 60000 := by
  obtain ⟨_, _, hs, hx, _, he⟩ := h
  have := Syn.wf3L_wt ds he
  omega
theorem mapSynL_wf3 {F : List Int → List Int} (hF : ∀ x, x.length ≤ 8 → Small x → (F x).length ≤ 40 ∧ ∀ z ∈ F x, I64 z) (ds : List Syn) (h : Syn.wf1L ds) : Syn.wf3L (mapSynL F ds) := by
  revert h
  refine Syn.inductL (P := fun ds => Syn.wf1L ds → Syn.wf3L (mapSynL F ds)) (fun ds ih => ?_) ds
  induction ds with
  | nil => intro _; trivial
  | cons d r ihr =>
    obtain ⟨k, n, s, x, es⟩ := d
    rintro ⟨⟨h1, h2, h3, h4, h5, h6⟩, h7⟩
    have hx : (mapX F k x).length ≤ 40 ∧ ∀ z ∈ mapX F k x, I64 z := by
      unfold mapX
      split
      · exact hF x h4 h5
      · exact ⟨by omega, h5.I64⟩
    exact ⟨⟨h1, h2, h3, hx.1, hx.2, ih k n s x es (List.mem_cons_self ..) h6⟩, ihr (fun k n s x es hm => ih k n s x es (List.mem_cons_of_mem _ hm)) h7⟩
theorem mapG_wf3 {F : List Int → List Int} (hF : ∀ x, x.length ≤ 8 → Small x → (F x).length ≤ 40 ∧ ∀ z ∈ F x, I64 z) (b : Bool) {k n : Int} {s : ByteArray} {x : List Int} {ds : List Syn} (h : (Syn.mk k n s x ds).wf1) : (Syn.mk k n s (mapGx b F k x) (mapGd b F ds)).wf3 := by
  cases b with
  | false => rw [mapGx_no, mapGd_no]; exact h.wf3
  | true =>
    rw [mapGx_yes, mapGd_yes]
    have := mapSynL_wf3 hF [.mk k n s x ds] ⟨h, trivial⟩
    exact this.1
theorem mapSynL_wf33 {F : List Int → List Int} (hF : ∀ x, x.length ≤ 40 → (∀ z ∈ x, I64 z) → (F x).length ≤ 40 ∧ ∀ z ∈ F x, I64 z) (ds : List Syn) (h : Syn.wf3L ds) : Syn.wf3L (mapSynL F ds) := by
  revert h
  refine Syn.inductL (P := fun ds => Syn.wf3L ds → Syn.wf3L (mapSynL F ds)) (fun ds ih => ?_) ds
  induction ds with
  | nil => intro _; trivial
  | cons d r ihr =>
    obtain ⟨k, n, s, x, es⟩ := d
    rintro ⟨⟨h1, h2, h3, h4, h5, h6⟩, h7⟩
    have hx : (mapX F k x).length ≤ 40 ∧ ∀ z ∈ mapX F k x, I64 z := by
      unfold mapX
      split
      · exact hF x h4 h5
      · exact ⟨h4, h5⟩
    exact ⟨⟨h1, h2, h3, hx.1, hx.2, ih k n s x es (List.mem_cons_self ..) h6⟩, ihr (fun k n s x es hm => ih k n s x es (List.mem_cons_of_mem _ hm)) h7⟩
theorem mapG_wf33 {F : List Int → List Int} (hF : ∀ x, x.length ≤ 40 → (∀ z ∈ x, I64 z) → (F x).length ≤ 40 ∧ ∀ z ∈ F x, I64 z) (b : Bool) {k n : Int} {s : ByteArray} {x : List Int} {ds : List Syn} (h : (Syn.mk k n s x ds).wf3) : (Syn.mk k n s (mapGx b F k x) (mapGd b F ds)).wf3 := by
  cases b with
  | false => rw [mapGx_no, mapGd_no]; exact h
  | true =>
    rw [mapGx_yes, mapGd_yes]
    have := mapSynL_wf33 hF [.mk k n s x ds] ⟨h, trivial⟩
    exact this.1
theorem putStep_mem2 {n x : Int} {st : List Int × Bool} {z : Int} (h : z ∈ (putStep n st x).1) : z ∈ st.1 ∨ z = n ∨ z = x := by
  unfold putStep at h
  split at h
  · split at h
    · simp only [List.mem_append, List.mem_singleton] at h; grind
    · simp only [List.mem_append, List.mem_singleton] at h; grind
  · simp only [List.mem_append, List.mem_singleton] at h; grind
theorem putSt_mem2 (n : Int) (l : List Int) : ∀ k, k ≤ l.length → ∀ z ∈ (putSt n (l.take k)).1, z ∈ l ∨ z = n
  | 0, _, z, hz => by simp [putSt] at hz
  | k + 1, hk, z, hz => by
    have hx : l[k]? = some l[k] := List.getElem?_eq_getElem (by omega)
    rw [putSt_succ hx] at hz
    rcases putStep_mem2 hz with h | h | h
    · exact putSt_mem2 n l k (by omega) z h
    · exact .inr h
    · subst h; exact .inl (List.getElem_mem (by omega))
theorem put_mem2 {n : Int} {l : List Int} {z : Int} (h : z ∈ put n l) : z ∈ l ∨ z = n := by
  have hs := putSt_mem2 n l l.length (Nat.le_refl _)
  rw [List.take_length] at hs
  unfold put at h
  split at h
  · exact hs z h
  · rcases List.mem_append.1 h with h | h
    · exact hs z h
    · simp at h; exact .inr h
theorem put_small {m : Int} (h0 : 0 ≤ m) (h1 : m ≤ 9) (x : List Int) (hl : x.length ≤ 8) (hx : Small x) : (put m x).length ≤ 40 ∧ ∀ z ∈ put m x, I64 z := by
  refine ⟨by have := put_length m x; omega, fun z hz => ?_⟩
  rcases put_mem2 hz with h | h
  · exact hx.I64 z h
  · subst h; unfold I64; omega
theorem flip_small {m : Int} (h0 : 0 ≤ m) (h1 : m ≤ 9) (x : List Int) (hl : x.length ≤ 8) (hx : Small x) : (flipSo m x).length ≤ 40 ∧ ∀ z ∈ flipSo m x, I64 z := by
  unfold flipSo flipS
  split
  · unfold flipL
    split
    · exact ⟨by have := dropN_length m x; omega, fun z hz => hx.I64 z (dropN_mem.1 hz).1⟩
    · exact put_small h0 h1 x hl hx
  · exact ⟨by omega, hx.I64⟩
theorem woUse_small (x : List Int) (hl : x.length ≤ 40) (hx : ∀ z ∈ x, I64 z) : (woUse x).length ≤ 40 ∧ ∀ z ∈ woUse x, I64 z := by
  refine ⟨by have := woUse_length x; omega, fun z hz => ?_⟩
  unfold woUse at hz
  split at hz
  · exact hx z (List.mem_filter.1 hz).1
  · exact hx z hz
end Go.Proofs.Ytghbnehocggnnaa

/-
  A cell read behind a store into another block. No condition.
-/
set_option linter.unusedVariables false
namespace Go.Proofs.Ytghbnehocggnnaa
open Go.RowKit
theorem cellSetFar {w : World} {b o g i : Nat} {u : Value} (h : b ≠ g) : (w.setCell ⟨g, i, none⟩ u).cell? ⟨b, o, none⟩ = w.cell? ⟨b, o, none⟩ :=
  World.cell?_of_block (a := ⟨b, o, none⟩) (heapSet w ⟨g, i, none⟩ u b h)
end Go.Proofs.Ytghbnehocggnnaa

/-
  Walks: the data of FnSwapTwice drawn. No condition.
-/
set_option linter.unusedVariables false
set_option linter.unusedSimpArgs false
set_option maxRecDepth 100000
namespace Go.Proofs.Ytghbnehocggnnaa
open Go.RowKit

theorem Cur.setFar {pb g i : Nat} {a : Option Addr} {cap : Nat} {l : List Int} {w : World} {v : Value} (h : Cur pb a cap l w) (hg : pb ≠ g) (hin : (M.sl a cap 1 5 (u8M l)).In (w.setCell ⟨g, i, none⟩ v)) : Cur pb a cap l (w.setCell ⟨g, i, none⟩ v) := by
  obtain ⟨j, x, ⟨c0, c1, c2, f1, f2, hle, hrow, hoff, hu8⟩⟩ := h
  have hk := heapSet w ⟨g, i, none⟩ v pb hg
  exact ⟨j, x, ⟨(World.cell?_of_block (a := ⟨pb, 0, none⟩) hk).trans c0, (World.cell?_of_block (a := ⟨pb, 1, none⟩) hk).trans c1, (World.cell?_of_block (a := ⟨pb, 2, none⟩) hk).trans c2, (World.frozen?_of_block (a := ⟨pb, 1, none⟩) hk).trans f1, (World.frozen?_of_block (a := ⟨pb, 2, none⟩) hk).trans f2, hle, hin, hoff, hu8⟩⟩
theorem l01Pick_lit2 (q : Nat) (cs : Array Value) (n : Nat) (pb : Nat) (a : Option Addr) (cap : Nat) (l : List Int) (w : World) (hq : q = w.heap.size) (hc : Cur pb a cap l w) (hn : cs.size = n) (h0 : 0 < n) (h1 : n ≤ 1000) (ht : Texts cs) :
    Calls Try.prog 88 #[.pointer (some ⟨pb, 0, none⟩), .slice (some ⟨q, 0, none⟩) n n] (w.alloc (.cells cs 9)) (DrawnT pb a cap l w) := by
  subst hq; exact l01Pick_lit cs n pb a cap l w hc hn h0 h1 ht
theorem Cur.drew {pb : Nat} {a : Option Addr} {cap : Nat} {l : List Int} {w : World} (h : Cur pb a cap l w) : Cur pb a cap l w.drew := h.below ((Below.refl _ _).drew)
theorem l01Pick_lit3 (q : Nat) (cs : Array Value) (n : Nat) (pb : Nat) (a : Option Addr) (cap : Nat) (l : List Int) (w : World) (hq : q = w.heap.size) (hc : Cur pb a cap l w) (hn : cs.size = n) (h0 : 0 < n) (h1 : n ≤ 1000) (ht : Texts cs) :
    Calls Try.prog 88 #[.pointer (some ⟨pb, 0, none⟩), .slice (some ⟨q, 0, none⟩) n n] (w.alloc (.cells cs 9)).drew (DrawnT pb a cap l w) := by
  subst hq
  refine (show Calls Try.prog 88 #[.pointer (some ⟨pb, 0, none⟩), .slice (some ⟨w.heap.size, 0, none⟩) n n] (w.alloc (.cells cs 9)).drew (DrawnT pb a cap l w.drew) from l01Pick_lit cs n pb a cap l w.drew hc.drew hn h0 h1 ht).mono ?_
  rintro e w' ⟨x, rfl, hx, hc', ho'⟩
  exact ⟨x, rfl, hx, hc', ⟨ho'.os, ho'.tape, ho'.output, ho'.size, ho'.block⟩⟩
/-- a datum and two short texts drawn -/
def RetSw (w : World) (e : Ending) (w' : World) : Prop :=
  ∃ (k n : Int) (s : ByteArray) (ds : List Dat) (a' : Option Addr) (cap' : Nat) (ms : List M) (x y : ByteArray), e = .returned (.tuple #[.agg #[.int .i64 k, .int .i64 n, .string s, .slice a' ms.length cap'], .string x, .string y]) ∧ Dat.IsL 52 ds ms ∧ (M.sl a' cap' 4 52 ms).Mine w' w.heap.size ∧ (Dat.mk k n s ds).wf ∧ 1 + Dat.countL ds ≤ 400 ∧ x.size ≤ 100 ∧ y.size ≤ 100 ∧ Below w.heap.size w w'
end Go.Proofs.Ytghbnehocggnnaa

/-
  Bindings in memory. No condition.
-/
set_option linter.unusedVariables false
set_option linter.unusedSimpArgs false
namespace Go.Proofs.Ytghbnehocggnnaa
open Go.RowKit

inductive Bnd where
  | mk (s : ByteArray) (x : List Int) (k n : Int)
def Bnd.s : Bnd → ByteArray | .mk s _ _ _ => s
def Bnd.x : Bnd → List Int | .mk _ x _ _ => x
def Bnd.k : Bnd → Int | .mk _ _ k _ => k
def Bnd.n : Bnd → Int | .mk _ _ _ n => n
@[simp] theorem Bnd.s_mk (s : ByteArray) (x : List Int) (k n : Int) : (Bnd.mk s x k n).s = s := rfl
@[simp] theorem Bnd.x_mk (s : ByteArray) (x : List Int) (k n : Int) : (Bnd.mk s x k n).x = x := rfl
@[simp] theorem Bnd.k_mk (s : ByteArray) (x : List Int) (k n : Int) : (Bnd.mk s x k n).k = k := rfl
@[simp] theorem Bnd.n_mk (s : ByteArray) (x : List Int) (k n : Int) : (Bnd.mk s x k n).n = n := rfl
/-- the element that holds a binding -/
def bndM (s : ByteArray) (xa : Option Addr) (xc : Nat) (x : List Int) (k n : Int) : M := .ag [.c (.string s), .sl xa xc 1 3 (intM x), .c (.int .i64 k), .c (.int .i64 n)]
def Bnd.Is : Bnd → M → Prop
  | .mk s x k n, m => ∃ xa xc, m = bndM s xa xc x k n
def Bnd.IsL : List Bnd → List M → Prop
  | [], ms => ms = []
  | d :: ds, ms => ∃ m r, ms = m :: r ∧ d.Is m ∧ Bnd.IsL ds r

theorem Bnd.IsL.length : ∀ {ds : List Bnd} {ms : List M}, Bnd.IsL ds ms → ms.length = ds.length
  | [], _, h => by simp [Bnd.IsL] at h; simp [h]
  | d :: ds, ms, h => by
    obtain ⟨m, r, rfl, _, h2⟩ := h
    simp [Bnd.IsL.length h2]
theorem Bnd.IsL.get : ∀ {ds : List Bnd} {ms : List M}, Bnd.IsL ds ms → ∀ (k : Nat) (hk : k < ds.length) (hk' : k < ms.length), (ds[k]).Is (ms[k])
  | [], _, h, k, hk, _ => by simp at hk
  | d :: ds, ms, h, k, hk, hk' => by
    obtain ⟨m, r, rfl, h1, h2⟩ := h
    cases k with
    | zero => exact h1
    | succ k => exact Bnd.IsL.get h2 k (by simpa using hk) (by simpa using hk')
theorem Bnd.IsL.snoc : ∀ {ds : List Bnd} {ms : List M} {d : Bnd} {m : M}, Bnd.IsL ds ms → d.Is m → Bnd.IsL (ds ++ [d]) (ms ++ [m])
  | [], ms, d, m, h, hd => by simp [Bnd.IsL] at h; subst h; exact ⟨m, [], rfl, hd, rfl⟩
  | x :: ds, ms, d, m, h, hd => by
    obtain ⟨y, r, rfl, h1, h2⟩ := h
    exact ⟨y, r ++ [m], rfl, h1, Bnd.IsL.snoc h2 hd⟩
theorem Bnd.IsL.set : ∀ {xs : List Bnd} {ms : List M} {d : Bnd} {m : M} (k : Nat), Bnd.IsL xs ms → d.Is m → Bnd.IsL (xs.set k d) (ms.set k m)
  | [], ms, d, m, k, h, _ => by simp [Bnd.IsL] at h; subst h; simp [Bnd.IsL]
  | x :: xs, ms, d, m, 0, h, hd => by obtain ⟨y, r, rfl, h1, h3⟩ := h; exact ⟨m, r, rfl, hd, h3⟩
  | x :: xs, ms, d, m, k + 1, h, hd => by obtain ⟨y, r, rfl, h1, h3⟩ := h; exact ⟨y, r.set k m, rfl, h1, Bnd.IsL.set k h3 hd⟩
theorem Bnd.IsL.replicate {d : Bnd} {m : M} (h : d.Is m) : ∀ n, Bnd.IsL (List.replicate n d) (List.replicate n m)
  | 0 => rfl
  | n + 1 => ⟨m, List.replicate n m, rfl, h, Bnd.IsL.replicate h n⟩
theorem Bnd.IsL.take : ∀ {xs : List Bnd} {ms : List M} (k : Nat), Bnd.IsL xs ms → Bnd.IsL (xs.take k) (ms.take k)
  | [], ms, k, h => by simp [Bnd.IsL] at h; subst h; simp [Bnd.IsL]
  | x :: xs, ms, 0, h => by simp [Bnd.IsL]
  | x :: xs, ms, k + 1, h => by obtain ⟨y, r, rfl, h1, h3⟩ := h; exact ⟨y, r.take k, rfl, h1, Bnd.IsL.take k h3⟩

/-- element k of a slice of bindings: its four cells, as the walk writes their addresses -/
theorem Bnd.elem {w : World} {a : Option Addr} {cap : Nat} {e : TypeId} {ds : List Bnd} {ms : List M} (h : (M.sl a cap 4 e ms).In w) (hi : Bnd.IsL ds ms) (k : Nat) (hk : k < ms.length) :
    ∃ b off s1 x1 k1 n1 xa1 xc1, a = some ⟨b, off, none⟩ ∧ ds[k]? = some (.mk s1 x1 k1 n1) ∧ (M.sl xa1 xc1 1 3 (intM x1)).In w ∧
      w.cell? ⟨b, off + k * 4, none⟩ = some (.string s1) ∧ w.cell? ⟨b, off + k * 4 + 1, none⟩ = some (.slice xa1 x1.length xc1) ∧
      w.cell? ⟨b, off + k * 4 + 2, none⟩ = some (.int .i64 k1) ∧ w.cell? ⟨b, off + k * 4 + 3, none⟩ = some (.int .i64 n1) := by
  obtain ⟨b, off, ha, hel⟩ := h.elem (by omega)
  have hl := hi.length
  have hg := hi.get k (by omega) hk
  have hs := h.sub k hk
  obtain ⟨s1, x1, k1, n1, hd⟩ : ∃ s1 x1 k1 n1, ds[k] = .mk s1 x1 k1 n1 := by cases ds[k]; exact ⟨_, _, _, _, rfl⟩
  rw [hd] at hg
  obtain ⟨xa1, xc1, hm⟩ := hg
  rw [hm] at hs
  refine ⟨b, off, s1, x1, k1, n1, xa1, xc1, ha, by rw [← hd]; exact List.getElem?_eq_getElem (by omega), hs.2.1, ?_, ?_, ?_, ?_⟩
  · exact hel k hk 0 _ (by rw [hm]; rfl)
  · have := hel k hk 1 (.slice xa1 (intM x1).length xc1) (by rw [hm]; rfl)
    rwa [intM_length] at this
  · exact hel k hk 2 _ (by rw [hm]; rfl)
  · exact hel k hk 3 _ (by rw [hm]; rfl)

/-- a binding's own memory is that of its scopes -/
theorem bndM_mine {w : World} {lo : Nat} {xa : Option Addr} {xc : Nat} {x : List Int} (h : (M.sl xa xc 1 3 (intM x)).Mine w lo) (s : ByteArray) (k n : Int) : (bndM s xa xc x k n).Mine w lo :=
  ⟨⟨rfl, h.own, rfl, rfl, trivial⟩, by simpa [bndM, M.blocks, M.blocksL] using h.dup⟩
theorem bndM_blocks (xa : Option Addr) (xc : Nat) (x : List Int) (s : ByteArray) (k n : Int) : (bndM s xa xc x k n).blocks = addrBlocks xa := by simp [bndM, M.blocks, M.blocksL, intM_blocks]
theorem bndM_cells (xa : Option Addr) (xc : Nat) (x : List Int) (s : ByteArray) (k n : Int) : (bndM s xa xc x k n).cells = [.string s, .slice xa x.length xc, .int .i64 k, .int .i64 n] := by simp [bndM, M.cells, M.cellsL, intM_length]

def RetBnd (d : Bnd) (w : World) (en : Ending) (w' : World) : Prop :=
  ∃ xa xc, en = .returned (.agg #[.string d.s, .slice xa d.x.length xc, .int .i64 d.k, .int .i64 d.n]) ∧ (M.sl xa xc 1 3 (intM d.x)).Mine w' w.heap.size ∧ Below w.heap.size w w'
def RetBnds (e : TypeId) (ds : List Bnd) (w : World) (en : Ending) (w' : World) : Prop :=
  ∃ a cap ms, en = .returned (.slice a ms.length cap) ∧ Bnd.IsL ds ms ∧ (M.sl a cap 4 e ms).Mine w' w.heap.size ∧ Below w.heap.size w w'

def Bnd.wf : Bnd → Prop
  | .mk s x k n => s.size ≤ 9223372036854775807 ∧ (∀ z ∈ x, I64 z) ∧ I64 k ∧ I64 n
def Bnd.wfL : List Bnd → Prop
  | [] => True
  | d :: ds => d.wf ∧ Bnd.wfL ds
theorem Bnd.wfL_get : ∀ {ds : List Bnd}, Bnd.wfL ds → ∀ {k : Nat} {d : Bnd}, ds[k]? = some d → d.wf
  | [], _, k, d, h => by simp at h
  | x :: r, h, 0, d, e => by simp at e; exact e ▸ h.1
  | x :: r, h, k + 1, d, e => Bnd.wfL_get h.2 (by simpa using e)
/-- how many values and letters a binding holds, itself aside -/
def Bnd.wt : Bnd → Nat
  | .mk s x _ _ => s.size + x.length
def Bnd.wtX : List Bnd → Nat
  | [] => 0
  | d :: ds => d.wt + Bnd.wtX ds
theorem Bnd.wtX_append (xs ys : List Bnd) : Bnd.wtX (xs ++ ys) = Bnd.wtX xs + Bnd.wtX ys := by
  induction xs with
  | nil => simp [Bnd.wtX]
  | cons x r ih => simp only [List.cons_append, Bnd.wtX, ih]; omega
theorem Bnd.wtX_take {ds : List Bnd} {k : Nat} {d : Bnd} (h : ds[k]? = some d) : Bnd.wtX (ds.take (k + 1)) = Bnd.wtX (ds.take k) + d.wt := by
  rw [take_snoc h, Bnd.wtX_append]; simp [Bnd.wtX]
theorem Bnd.wt_le : ∀ {ds : List Bnd} {k : Nat} {d : Bnd}, ds[k]? = some d → d.wt ≤ Bnd.wtX ds
  | [], k, d, h => by simp at h
  | x :: r, 0, d, h => by simp at h; subst h; simp only [Bnd.wtX]; omega
  | x :: r, k + 1, d, h => by have := Bnd.wt_le (ds := r) (k := k) (d := d) (by simpa using h); simp only [Bnd.wtX]; omega
theorem Bnd.mem_size {ds : List Bnd} {d : Bnd} (h : d ∈ ds) (hb : ds.length + Bnd.wtX ds ≤ 1048576) : d.s.size ≤ 1048576 := by
  obtain ⟨i, hi, he⟩ := List.mem_iff_getElem.1 h
  have := Bnd.wt_le (ds := ds) (k := i) (d := d) (by rw [List.getElem?_eq_getElem hi, he])
  obtain ⟨s, x, k, n⟩ := d
  simp only [Bnd.wt] at this
  simp only [Bnd.s_mk]
  omega
end Go.Proofs.Ytghbnehocggnnaa

/-
  append of elements of one's own, in whatever order the row and they were made; boxes of bindings. No condition.
-/
set_option linter.unusedVariables false
namespace Go.Proofs.Ytghbnehocggnnaa
open Go.RowKit

/-- append(row, other...): all elements of another slice, their inner rows one's own. -/
theorem step_app {P : Program} {w1 : World} {ops : Array Oper} {o : Oper} {act : Act} {K : Act → World → Prop} {Q : Exit → Act → World → Prop} {E : Prop} (hgd : o.guard = none) (s x : Operand) (t : TypeId)
    (ho : o.op = .call { callee := .builtin .append, args := #[s, x], argTypes := #[t, t] })
    (e : TypeId) (z : Value) (size bytes : Nat) (ht : P.underlying t = some (.slice e)) (hinfo : (P.info? e).map (fun i => (i.zero, i.size, i.bytes)) = some (some z, size, bytes))
    (hzs : z.cells.size = size) (hsz : 0 < size)
    (lo : Nat) (a : Option Addr) (cap : Nat) (xs : List M) (hs : act.eval s = .slice a xs.length cap) (hrow : (M.sl a cap size e xs).Mine w1 lo) (hlo : lo ≤ w1.heap.size)
    (ao : Option Addr) (co : Nat) (e' : TypeId) (ys : List M) (hx : act.eval x = .slice ao ys.length co) (hin : (M.sl ao co size e' ys).In w1) (hys : M.MineL w1 lo ys) (hdis : ∀ b ∈ M.blocksL ys, b ∉ (M.sl a cap size e xs).blocks)
    (h63 : xs.length + ys.length ≤ maxLen) (hbytes : (xs.length + ys.length) * bytes ≤ 140737488355328)
    (h : ∀ a' cap' w', (M.sl a' cap' size e (xs ++ ys)).Mine w' lo → Below lo w1 w' → w1.heap.size ≤ w'.heap.size → (∀ b, b < w1.heap.size → b ∉ addrBlocks a → w'.heap[b]? = w1.heap[b]?) →
      K (act.put o.dst (.slice a' (xs.length + ys.length) cap')) w') : if Region.wanted o (yielded ops act.tmps) = true then Oper.wp P o act w1 K Q else E := by
  have hlen := hin.1.2
  refine step_row _ hgd s x t ho e z size bytes ht hinfo hzs hsz lo a xs.length cap (M.cellsL xs) hs hrow.own.1.1 ao ys.length co (M.cellsL ys) hx (M.cellsL_length hlen) hin.1.1.nil (fun ad had j u hu => hin.1.1.cell ad had j u hu) ?_ h63 hbytes hlo ?_
  · exact M.OwnL.one ys hys.own
  · intro a' cap' w' hr hg ha
    have hp := M.Mine.push (ys := ys) hrow hr hg ha hys hlen (fun b hb => ⟨fun hn => hdis b hb (by simp [M.blocks, hn]), fun hn => hdis b hb (by simp [M.blocks, hn])⟩)
    have hkeep : ∀ b, b < w1.heap.size → b ∉ addrBlocks a → w'.heap[b]? = w1.heap[b]? := fun b hb1 hn => hg.block b hb1 (fun he => hn (addrBlocks_own.1 he.symm))
    exact h a' cap' w' hp (grownBy_below (lo := lo) hg (B := lo) hlo fun b hb => (Mine.addr_lo hrow b hb).1) hg.size hkeep

/-- append(row, x): one element, its inner rows one's own. -/
theorem step_one {P : Program} {w1 : World} {ops : Array Oper} {o : Oper} {act : Act} {K : Act → World → Prop} {Q : Exit → Act → World → Prop} {E : Prop} (hgd : o.guard = none) (s x : Operand) (t : TypeId)
    (ho : o.op = .call { callee := .builtin .append, args := #[s, x], argTypes := #[t, t] })
    (e : TypeId) (z : Value) (size bytes : Nat) (ht : P.underlying t = some (.slice e)) (hinfo : (P.info? e).map (fun i => (i.zero, i.size, i.bytes)) = some (some z, size, bytes))
    (hzs : z.cells.size = size) (hsz : 0 < size)
    (lo : Nat) (a : Option Addr) (cap : Nat) (xs : List M) (hs : act.eval s = .slice a xs.length cap) (hrow : (M.sl a cap size e xs).Mine w1 lo) (hlo : lo ≤ w1.heap.size)
    (cs : Array Value) (m : M) (hmc : m.cells = cs.toList) (hml : cs.size = size) (hm : m.Mine w1 lo) (hdis : ∀ b ∈ m.blocks, b ∉ (M.sl a cap size e xs).blocks)
    (hx : act.eval x = .slice (some ⟨w1.heap.size, 0, none⟩) 1 1) (h63 : xs.length + 1 ≤ maxLen) (hbytes : (xs.length + 1) * bytes ≤ 140737488355328)
    (h : ∀ a' cap' w', (M.sl a' cap' size e (xs ++ [m])).Mine w' lo → Below lo w1 w' → w1.heap.size ≤ w'.heap.size → (∀ b, b < w1.heap.size → b ∉ addrBlocks a → w'.heap[b]? = w1.heap[b]?) →
      K (act.put o.dst (.slice a' (xs.length + 1) cap')) w') : if Region.wanted o (yielded ops act.tmps) = true then Oper.wp P o act (w1.alloc (.cells cs e)) K Q else E := by
  have hlen : m.cells.length = size := by rw [hmc]; simpa using hml
  have hrw := hrow.below (w' := w1.alloc (.cells cs e)) ((Below.refl _ _).alloc (Nat.le_refl _) _)
  have hmw := hm.below (w' := w1.alloc (.cells cs e)) ((Below.refl _ _).alloc (Nat.le_refl _) _)
  refine step_app hgd s x t ho e z size bytes ht hinfo hzs hsz lo a cap xs hs hrw (by simp; omega) (some ⟨w1.heap.size, 0, none⟩) 1 e [m] hx ?_ ⟨⟨hmw.own, trivial⟩, by simpa [M.blocksL] using hmw.dup⟩ (by simpa [M.blocksL] using hdis) h63 hbytes ?_
  · refine ⟨⟨⟨by simp [M.cellsL, hlen], hsz, by simp, by simp [maxLen], by simp, fun ad had j u hu => ?_⟩, by simpa using hlen⟩, ⟨hmw.in_, trivial⟩⟩
    obtain rfl := Option.some.inj had
    rw [addr_add, Nat.zero_add, World.cell?_alloc_new]
    simp only [M.cellsL, List.append_nil] at hu
    rw [hmc] at hu
    simpa using hu
  · intro a' cap' w' h1 h2 h3 h4
    simp only [World.size_alloc] at h3 h4
    refine h a' cap' w' h1 ⟨h2.os, h2.tape, h2.output, by omega, fun k hk => (h2.block k hk).trans (heapNew _ _ _ (by omega))⟩ (by omega) fun b hb hn => (h4 b (by omega) hn).trans (heapNew _ _ _ hb)
end Go.Proofs.Ytghbnehocggnnaa

/-
  Walks: the names of forms and primitives. No condition.
-/
set_option linter.unusedVariables false
set_option linter.unusedSimpArgs false
set_option maxRecDepth 100000
namespace Go.Proofs.Ytghbnehocggnnaa
open Go.RowKit

def RetStrs (l : List ByteArray) (w : World) (e : Ending) (w' : World) : Prop := ∃ a cap, e = .returned (.slice a l.length cap) ∧ (M.sl a cap 1 9 (strM l)).Mine w' w.heap.size ∧ Below w.heap.size w w'
theorem strM_mineL (w : World) (lo : Nat) (l : List ByteArray) : M.MineL w lo (strM l) :=
  ⟨by rw [OwnL_iff]; intro x hx; simp [strM] at hx; obtain ⟨n, _, rfl⟩ := hx; rfl, by rw [strM_blocks]; exact List.nodup_nil⟩
theorem strM_one (l : List ByteArray) : ∀ x ∈ strM l, x.cells.length = 1 := by intro x hx; simp [strM] at hx; obtain ⟨n, _, rfl⟩ := hx; rfl

def formNames : List ByteArray := [⟨#[113, 117, 111, 116, 101]⟩, ⟨#[108, 97, 109, 98, 100, 97]⟩, ⟨#[105, 102]⟩, ⟨#[115, 101, 116, 33]⟩, ⟨#[98, 101, 103, 105, 110]⟩, ⟨#[114, 101, 115, 101, 116]⟩, ⟨#[115, 104, 105, 102, 116]⟩, ⟨#[100, 101, 102, 105, 110, 101]⟩, ⟨#[100, 101, 102, 105, 110, 101, 45, 115, 121, 110, 116, 97, 120]⟩, ⟨#[108, 101, 116, 45, 115, 121, 110, 116, 97, 120]⟩, ⟨#[115, 121, 110, 116, 97, 120, 45, 114, 117, 108, 101, 115]⟩, ⟨#[108, 111, 99, 97, 108]⟩]
def primNames : List ByteArray := [⟨#[43]⟩, ⟨#[45]⟩, ⟨#[42]⟩, ⟨#[61]⟩, ⟨#[60]⟩, ⟨#[99, 111, 110, 115]⟩, ⟨#[99, 97, 114]⟩, ⟨#[99, 100, 114]⟩, ⟨#[110, 117, 108, 108, 63]⟩, ⟨#[112, 97, 105, 114, 63]⟩, ⟨#[110, 117, 109, 98, 101, 114, 63]⟩, ⟨#[101, 113, 63]⟩, ⟨#[110, 111, 116]⟩, ⟨#[100, 105, 115, 112, 108, 97, 121]⟩]

theorem sFormNames_calls (w : World) : Calls Try.prog 77 #[] w (RetStrs formNames w) := by
  go_enter Try.func77, Try.ntmps77
  go_wp2_with fail
  go_ret
  refine ⟨some ⟨w.heap.size, 0, none⟩, 12, rfl, ?_, (Below.refl _ _).alloc (Nat.le_refl _) _⟩
  exact M.Mine.new (xs := strM formNames) rfl (Nat.le_refl _) (by rw [strM_cells]; rfl) (by decide) (strM_one _) (by simp [maxLen]) (strM_mineL _ _ _)

theorem iFormNames_calls (w : World) : Calls Try.prog 83 #[] w (RetStrs formNames w) := by
  go_enter Try.func83, Try.ntmps83
  go_wp2_with fail
  go_ret
  refine ⟨some ⟨w.heap.size, 0, none⟩, 12, rfl, ?_, (Below.refl _ _).alloc (Nat.le_refl _) _⟩
  exact M.Mine.new (xs := strM formNames) rfl (Nat.le_refl _) (by rw [strM_cells]; rfl) (by decide) (strM_one _) (by simp [maxLen]) (strM_mineL _ _ _)

theorem sPrimitiveNames_calls (w : World) : Calls Try.prog 78 #[] w (RetStrs primNames w) := by
  go_enter Try.func78, Try.ntmps78
  go_wp2_with fail
  go_ret
  refine ⟨some ⟨w.heap.size, 0, none⟩, 14, rfl, ?_, (Below.refl _ _).alloc (Nat.le_refl _) _⟩
  exact M.Mine.new (xs := strM primNames) rfl (Nat.le_refl _) (by rw [strM_cells]; rfl) (by decide) (strM_one _) (by simp [maxLen]) (strM_mineL _ _ _)

theorem iPrimitiveNames_calls (w : World) : Calls Try.prog 84 #[] w (RetStrs primNames w) := by
  go_enter Try.func84, Try.ntmps84
  go_wp2_with fail
  go_ret
  refine ⟨some ⟨w.heap.size, 0, none⟩, 14, rfl, ?_, (Below.refl _ _).alloc (Nat.le_refl _) _⟩
  exact M.Mine.new (xs := strM primNames) rfl (Nat.le_refl _) (by rw [strM_cells]; rfl) (by decide) (strM_one _) (by simp [maxLen]) (strM_mineL _ _ _)

end Go.Proofs.Ytghbnehocggnnaa
