/-
  Texts set together by wip/tools/merge.py: N5, N6, N8, PD1, Shelf, F3, F2, W6, StrP, F4, F5, Box, F6, F7, F8, PD2, PD3, PD4, PN2, Shelf2. No condition beyond those told with each.
-/
import Derived.Test.YtghbnehocggnnaaDoorGa
import Derived.Shelf.LaysM
import Derived.Shelf.Strconv.Itoa3
import Derived.Shelf.Strconv.AppendIntPublic10
import Derived.Test.YtghbnehocggnnaaDoorProg
import Derived.Lib.AppendIntMem
import Derived.Laws.IdiomStrings
import Derived.Lib.AppendStr
import Derived.Lib.OwnKind
import Derived.Lib.OthersKept
import Derived.Lib.BufferRead
import Derived.Deep.LoopGhost
import Derived.Shelf.Strconv.Atoi
import Derived.Shelf.Strconv.AtoiErrFast
import Derived.Shelf.Strconv.ParseIntEmpty
import Derived.Shelf.LaysC
import Derived.Shelf.Strconv.ErrVar
/-
  Walks: the program's measure of a datum. No condition.
-/
set_option linter.unusedVariables false
set_option linter.unusedSimpArgs false
set_option maxRecDepth 100000
namespace Go.Proofs.YtghbnehocggnnaaDoor
open Go.RowKit

def MsOk (k n : Int) (s : ByteArray) (ds : List Dat) (D C : Int) : Prop := D + Dat.depthL ds ≤ 20 ∧ C + 1 + Dat.countL ds ≤ 600 ∧ (Dat.mk k n s ds).ok
def RetMs (ok : Prop) (C : Int) (m : Nat) (pb : Nat) (w : World) (e : Ending) (w' : World) : Prop :=
  ∃ (b : Bool) (C' : Int), e = .returned (.bool b) ∧ (b = true ↔ ok) ∧ (b = true → C' = C + m) ∧ C ≤ C' ∧ C' ≤ C + m ∧ w'.cell? ⟨pb, 0, none⟩ = some (.int .i64 C') ∧ w'.frozen? ⟨pb, 0, none⟩ = false ∧ OnlyIn pb (pb + 1) w w'
def MsDs (ds : List Dat) : Prop := ∀ (k n : Int) (s : ByteArray) (a : Option Addr) (cap : Nat) (ms : List M) (D : Int) (pb : Nat) (C : Int) (w0 w : World), (Dat.mk k n s ds).wf → Dat.countL ds ≤ 1000000000 → Dat.IsL 40 ds ms → (M.sl a cap 4 40 ms).In w0 →
    Below w0.heap.size w0 w → w0.heap.size ≤ pb → 0 ≤ D → D ≤ 1000000000 → 0 ≤ C → C ≤ 1000000000 → w.cell? ⟨pb, 0, none⟩ = some (.int .i64 C) → w.frozen? ⟨pb, 0, none⟩ = false →
    Calls Tryd.prog 51 #[.agg #[.int .i64 k, .int .i64 n, .string s, .slice a ms.length cap], .int .i64 D, .pointer (some ⟨pb, 0, none⟩)] w (RetMs (MsOk k n s ds D C) C (1 + Dat.countL ds) pb w)
theorem measure_calls : ∀ ds, MsDs ds := by
  refine Dat.inductL fun ds ih => ?_
  intro k n s a cap ms D pb C w0 w hwf hB hi hin hb0 hpb hD0 hD9 hC0 hC9 hp hpf
  have hl := hi.length
  have hcap := hin.len
  have hpw := World.block_lt_of_cell? w _ hp
  simp only at hpw
  have hs : s.size ≤ 9223372036854775807 := hwf.2.2.1
  have hwl := hwf.2.2.2
  have hok : MsOk k n s ds D C ↔ D + Dat.depthL ds ≤ 20 ∧ C + 1 + Dat.countL ds ≤ 600 ∧ nodeB k n s ms.length = true ∧ ∀ d ∈ ds, d.ok := by unfold MsOk; rw [Dat.ok_mk, ← hl]
  clear hwf
  have ho1 : OnlyIn pb (pb + 1) w (w.setCell ⟨pb, 0, none⟩ (.int .i64 (C + 1))) := (OnlyIn.refl pb (pb + 1) w).set ⟨pb, 0, none⟩ _ (Nat.le_refl _) (Nat.lt_succ_self _)
  by_cases hdeep : 20 < D
  · have hno : ¬ MsOk k n s ds D C := fun h => by have := h.1; omega
    have IH := Lib.hid ih; clear ih; have HIN := Lib.hid hin; clear hin; have HI := Lib.hid hi; clear hi; have HL := Lib.hid hl; clear hl; have HWL := Lib.hid hwl; clear hwl; have HOK := Lib.hid hok; clear hok; have HNO := Lib.hid hno; clear hno
    go_enter Tryd.func51, Tryd.ntmps51
    go_wp2_with fail
    go_ret
    refine ⟨false, C + 1, rfl, by simp [HNO.out], by simp, by omega, by omega, ?_, ?_, ?_⟩
    · simp (disch := (first | omega | (simp; omega))) [go_sem, hp]
    · simp (disch := (first | omega | (simp; omega))) [go_sem, hpf]
    · first | exact ho1 | exact ho1.new _
  · by_cases hmany : 600 < C + 1
    · have hno : ¬ MsOk k n s ds D C := fun h => by have := h.2.1; omega
      have IH := Lib.hid ih; clear ih; have HIN := Lib.hid hin; clear hin; have HI := Lib.hid hi; clear hi; have HL := Lib.hid hl; clear hl; have HWL := Lib.hid hwl; clear hwl; have HOK := Lib.hid hok; clear hok; have HNO := Lib.hid hno; clear hno
      go_enter Tryd.func51, Tryd.ntmps51
      go_wp2_with fail
      go_ret
      refine ⟨false, C + 1, rfl, by simp [HNO.out], by simp, by omega, by omega, ?_, ?_, ?_⟩
      · simp (disch := (first | omega | (simp; omega))) [go_sem, hp]
      · simp (disch := (first | omega | (simp; omega))) [go_sem, hpf]
      · first | exact ho1 | exact ho1.new _
    · cases hnode : nodeB k n s ms.length with
      | false =>
        have hno : ¬ MsOk k n s ds D C := fun h => by rw [hok, hnode] at h; simp at h
        have IH := Lib.hid ih; clear ih; have HIN := Lib.hid hin; clear hin; have HI := Lib.hid hi; clear hi; have HL := Lib.hid hl; clear hl; have HWL := Lib.hid hwl; clear hwl; have HOK := Lib.hid hok; clear hok; have HNO := Lib.hid hno; clear hno
        go_enter Tryd.func51, Tryd.ntmps51
        go_wp2_with fail
        refine (rightNode_calls k n s ms.length _ hs).mono ?_
        rintro e w1 ⟨rfl, rfl⟩
        go_wp2_with fail
        go_ret
        refine ⟨false, C + 1, rfl, by simp [HNO.out], by simp, by omega, by omega, ?_, ?_, ?_⟩
        · simp (disch := (first | omega | (simp; omega))) [go_sem, hp]
        · simp (disch := (first | omega | (simp; omega))) [go_sem, hpf]
        · first | exact ho1 | exact ho1.new _
      | true =>
        have IH := Lib.hid ih; clear ih; have HIN := Lib.hid hin; clear hin; have HI := Lib.hid hi; clear hi; have HL := Lib.hid hl; clear hl; have HWL := Lib.hid hwl; clear hwl; have HOK := Lib.hid hok; clear hok
        go_enter Tryd.func51, Tryd.ntmps51
        go_wp2_with fail
        refine (rightNode_calls k n s ms.length _ hs).mono ?_
        rintro e w1 ⟨rfl, rfl⟩
        go_wp2_with fail
        have hs' : (w.setCell ⟨pb, 0, none⟩ (.int .i64 (C + 1))).heap.size = w.heap.size := by simp
        go_loopw [38] (fun i wr => ∃ (j : Nat), j ≤ ms.length ∧ i = .int .i64 j ∧ D + Dat.depthL (ds.take j) ≤ 20 ∧ C + 1 + Dat.countL (ds.take j) ≤ 600 ∧ (∀ x ∈ ds.take j, x.ok) ∧ (wr.cell? ⟨pb, 0, none⟩ = some (.int .i64 (C + 1 + Dat.countL (ds.take j))) ∧ wr.frozen? ⟨pb, 0, none⟩ = false) ∧ OnlyIn pb (pb + 1) w wr ∧ w.heap.size + 1 ≤ wr.heap.size) (fun i _ => ms.length - (intOf i).toNat)
        case atStart =>
          refine ⟨0, Nat.zero_le _, rfl, by simp [Dat.depthL]; omega, by simp [Dat.countL]; omega, by simp, ?_, ho1.new _, by simp⟩
          simp (disch := (first | omega | (simp; omega))) [go_sem, hp, hpf, Dat.countL]
        case round =>
          obtain ⟨j, hj, rfl, hdp, hct, hpre, ⟨q, qf⟩, ho, hsz⟩ := hrel
          have hbz := ho.low hb0 hpb
          by_cases hlt : j < ms.length
          · obtain ⟨b, off, k1, n1, s1, ds1, a1, cap1, ms1, rfl, hd, hi1, hin1, c0, c1, c2, c3⟩ := Dat.elem HIN.out HI.out j hlt
            have hbl := World.block_lt_of_cell? w0 _ c0
            simp only at hbl
            have e0 := (hbz.cell (p := ⟨b, _, none⟩) hbl).trans c0
            have e1 := (hbz.cell (p := ⟨b, _, none⟩) hbl).trans c1
            have e2 := (hbz.cell (p := ⟨b, _, none⟩) hbl).trans c2
            have e3 := (hbz.cell (p := ⟨b, _, none⟩) hbl).trans c3
            clear c0 c1 c2 c3
            obtain ⟨ht, hle⟩ := Dat.countL_le ds j _ hd
            have htd := Dat.depthL_take hd
            have hgd := Dat.depthL_get hd
            have hw1 := Dat.wfL_get HWL.out hd
            have hmem := List.mem_of_getElem? hd
            simp only [Dat.count] at hle ht
            simp only [Dat.depth] at htd hgd
            have hD20 : D ≤ 20 := by omega
            have hbx := hbz.alloc (by first | exact hbz.size | omega) (.cells #[.int .i64 k1, .int .i64 n1, .string s1, .slice a1 ms1.length cap1] 40)
            generalize hCe : C + 1 + (Dat.countL (ds.take j) : Int) = C1 at *
            have hC1 : 0 ≤ C1 := by omega
            have hpr : pb < wr.heap.size := by omega
            have q1 : (wr.alloc (.cells #[.int .i64 k1, .int .i64 n1, .string s1, .slice a1 ms1.length cap1] 40)).cell? ⟨pb, 0, none⟩ = some (.int .i64 C1) := by simp (disch := (first | omega | (simp; omega))) [go_sem, q]
            have q1f : (wr.alloc (.cells #[.int .i64 k1, .int .i64 n1, .string s1, .slice a1 ms1.length cap1] 40)).frozen? ⟨pb, 0, none⟩ = false := by simp (disch := (first | omega | (simp; omega))) [go_sem, qf]
            have HD := Lib.hid hd; clear hd; have HI1 := Lib.hid hi1; clear hi1; have HIN1 := Lib.hid hin1; clear hin1; have HMEM := Lib.hid hmem; clear hmem; have HT := Lib.hid ht; clear ht; have HTD := Lib.hid htd; clear htd; have HGD := Lib.hid hgd; clear hgd; have HW1 := Lib.hid hw1; clear hw1; have HB0 := Lib.hid hb0; clear hb0; have HBZ := Lib.hid hbz; clear hbz; have HO := Lib.hid ho; clear ho; have HBX := Lib.hid hbx; clear hbx; have HPRE := Lib.hid hpre; clear hpre; have HCE := Lib.hid hCe; clear hCe; have Q1 := Lib.hid q1; clear q1; have Q1F := Lib.hid q1f; clear q1f
            go_wp2_with fail
            refine (IH.out k1 n1 s1 ds1 HMEM.out k1 n1 s1 a1 cap1 ms1 (D + 1) pb C1 w0 _ HW1.out (by omega) HI1.out HIN1.out HBX.out hpb (by omega) (by omega) hC1 (by omega) Q1.out Q1F.out).mono ?_
            rintro e w1 ⟨bb, C', rfl, hbb, hbc, hlo, hhi, q', qf', ho2⟩
            have hof := (HO.out.new (.cells #[.int .i64 k1, .int .i64 n1, .string s1, .slice a1 ms1.length cap1] 40)).trans ho2
            have hz2 := ho2.size
            simp only [World.size_alloc] at hz2
            cases bb with
            | true =>
              obtain ⟨m1, m2, m3⟩ := hbb.1 rfl
              have hcc := hbc rfl
              have hpre2 := ok_take HPRE.out HD.out m3
              have hdp2 : D + (Dat.depthL (ds.take (j + 1)) : Int) ≤ 20 := by rw [HTD.out]; omega
              have hct2 : C + 1 + (Dat.countL (ds.take (j + 1)) : Int) = C' := by rw [HT.out, hcc, ← HCE.out]; push_cast; omega
              have HOF := Lib.hid hof; clear hof; have HO2 := Lib.hid ho2; clear ho2; have HPRE2 := Lib.hid hpre2; clear hpre2; have HDP2 := Lib.hid hdp2; clear hdp2; have HBB := Lib.hid hbb; clear hbb; have HBC := Lib.hid hbc; clear hbc; have HCC := Lib.hid hcc; clear hcc; have M3 := Lib.hid m3; clear m3
              go_wp2_with fail
              go_roundw
              case rel => exact ⟨j + 1, by omega, by go_num, HDP2.out, by rw [hct2]; have := HCC.out; omega, HPRE2.out, ⟨by rw [hct2]; exact q', qf'⟩, HOF.out, by omega⟩
              case measure => simp [intOf]; omega
            | false =>
              have hno : ¬ MsOk k n s ds D C := fun h => by
                have h' := HOK.out.1 h
                have : ¬ MsOk k1 n1 s1 ds1 (D + 1) C1 := fun h2 => by have := hbb.2 h2; simp at this
                apply this
                refine ⟨?_, ?_, h'.2.2.2 _ HMEM.out⟩
                · have := HGD.out; omega
                · have := HCE.out; omega
              have hcl : C + ((1 + Dat.countL ds : Nat) : Int) = C + 1 + Dat.countL ds := by push_cast; omega
              have hce := HCE.out
              have HOF := Lib.hid hof; clear hof; have HO2 := Lib.hid ho2; clear ho2; have HBB := Lib.hid hbb; clear hbb; have HBC := Lib.hid hbc; clear hbc; have HNO := Lib.hid hno; clear hno
              go_wp2_with fail
              go_ret
              exact ⟨false, C', rfl, by simp [HNO.out], by simp, by omega, by push_cast at hhi ⊢; omega, q', qf', HOF.out⟩
          · have hk2 : j = ms.length := by omega
            subst hk2
            have hd2 : ds.take ms.length = ds := by rw [HL.out, List.take_length]
            rw [hd2] at q hdp hct hpre
            have hyes : MsOk k n s ds D C := HOK.out.2 ⟨hdp, hct, hnode, hpre⟩
            have HO := Lib.hid ho; clear ho; have HBZ := Lib.hid hbz; clear hbz; have HD2 := Lib.hid hd2; clear hd2; have HYES := Lib.hid hyes; clear hyes; have HPRE := Lib.hid hpre; clear hpre
            go_wp2_with fail
            go_ret
            exact ⟨true, _, rfl, by simp [HYES.out], fun _ => rfl, by push_cast; omega, Int.le_refl _, by rw [q]; congr 2; push_cast; omega, qf, HO.out⟩
end Go.Proofs.YtghbnehocggnnaaDoor

/-
  Walks: IsDatum. No condition.
-/
set_option linter.unusedVariables false
set_option linter.unusedSimpArgs false
set_option maxRecDepth 100000
namespace Go.Proofs.YtghbnehocggnnaaDoor
open Go.RowKit

def IsDatP (k n : Int) (s : ByteArray) (ds : List Dat) : Prop := 1 + Dat.countL ds ≤ 600 ∧ 1 + Dat.depthL ds ≤ 20 ∧ (Dat.mk k n s ds).ok
open Classical in
noncomputable def isDatB (k n : Int) (s : ByteArray) (ds : List Dat) : Bool := decide (IsDatP k n s ds)
theorem isDatB_yes {k n : Int} {s : ByteArray} {ds : List Dat} (h : IsDatP k n s ds) : isDatB k n s ds = true := by simp [isDatB, h]
theorem isDatB_no {k n : Int} {s : ByteArray} {ds : List Dat} (h : ¬ IsDatP k n s ds) : isDatB k n s ds = false := by simp [isDatB, h]

theorem sIsDatum_calls (k n : Int) (s : ByteArray) (ds : List Dat) (a : Option Addr) (cap : Nat) (ms : List M) (w : World) (hwf : (Dat.mk k n s ds).wf) (hB : Dat.countL ds ≤ 1000000000) (hi : Dat.IsL 40 ds ms) (hin : (M.sl a cap 4 40 ms).In w) :
    Calls Tryd.prog 30 #[.agg #[.int .i64 k, .int .i64 n, .string s, .slice a ms.length cap]] w (Ret (.bool (isDatB k n s ds)) w) := by
  have hdl := Dat.depthL_le ds
  have HI := Lib.hid hi; clear hi; have HIN := Lib.hid hin; clear hin; have HWF := Lib.hid hwf; clear hwf
  go_enter Tryd.func30, Tryd.ntmps30
  go_wp2_with fail
  refine (l1Few_calls ds k n s a cap ms (w.heap.size + 1) 600 w _ hB HI.out HIN.out (by (repeat (first | with_reducible assumption | with_reducible exact Below.refl _ _ | with_reducible refine Below.drew ?_ | with_reducible refine belowDrewN ?_ _ | ((with_reducible refine Below.setCell ?_ ?_ _); rotate_left; focus (first | omega | (simp; done) | (simp; omega))) | ((with_reducible refine Below.alloc ?_ ?_ _); rotate_left; focus (first | omega | (simp; done) | (simp; omega)))))) (by omega) (by omega) (by omega) (by simp [go_sem]) (by simp [go_sem])).mono ?_
  rintro e w1 ⟨rfl, q', qf', ho1⟩
  obtain ⟨hc1, hf1⟩ := ocell ho1
  have hz1 := ho1.size
  simp only [World.size_alloc] at hz1 hc1
  have hb1 : Below w.heap.size w w1 := ho1.low (by (repeat (first | with_reducible assumption | with_reducible exact Below.refl _ _ | with_reducible refine Below.drew ?_ | with_reducible refine belowDrewN ?_ _ | ((with_reducible refine Below.setCell ?_ ?_ _); rotate_left; focus (first | omega | (simp; done) | (simp; omega))) | ((with_reducible refine Below.alloc ?_ ?_ _); rotate_left; focus (first | omega | (simp; done) | (simp; omega)))))) (by omega)
  have q0 : w1.cell? ⟨w.heap.size, 0, none⟩ = some (.int .i64 k) := by rw [hc1 _ _ (by omega) (by omega)]; simp [go_sem]
  have q1 : w1.cell? ⟨w.heap.size, 1, none⟩ = some (.int .i64 n) := by rw [hc1 _ _ (by omega) (by omega)]; simp [go_sem]
  have q2 : w1.cell? ⟨w.heap.size, 2, none⟩ = some (.string s) := by rw [hc1 _ _ (by omega) (by omega)]; simp [go_sem]
  have q3 : w1.cell? ⟨w.heap.size, 3, none⟩ = some (.slice a ms.length cap) := by rw [hc1 _ _ (by omega) (by omega)]; simp [go_sem]
  clear hc1 hf1
  have HO1 := Lib.hid ho1; clear ho1
  by_cases hfew : ((1 + Dat.countL ds : Nat) : Int) ≤ 600
  · have hpos : 0 ≤ few 600 (1 + Dat.countL ds) := by rw [few_pos hfew]; omega
    go_wp2_with fail
    refine (sDepthOf_calls ds k n s a cap ms _ (by omega) HI.out (HIN.out.below hb1)).mono ?_
    rintro e w2 ⟨rfl, hb2⟩
    obtain ⟨hc2, hf2⟩ := bcell hb2; have hz2 := hb2.size; (try simp only [World.size_alloc, World.size_setCell, World.size_drew, sizeDrewN] at hz2 hc2 hf2)
    have q0' := (hc2 _ _ (by omega)).trans q0
    have q1' := (hc2 _ _ (by omega)).trans q1
    have q2' := (hc2 _ _ (by omega)).trans q2
    have q3' := (hc2 _ _ (by omega)).trans q3
    by_cases hdp : ((1 + Dat.depthL ds : Nat) : Int) ≤ 20
    · go_wp2_with fail
      refine (l1Nodes_calls ds k n s a cap ms _ HWF.out HI.out (HIN.out.below (by (repeat (first | with_reducible assumption | with_reducible exact Below.refl _ _ | with_reducible refine Below.drew ?_ | with_reducible refine belowDrewN ?_ _ | ((with_reducible refine Below.setCell ?_ ?_ _); rotate_left; focus (first | omega | (simp; done) | (simp; omega))) | ((with_reducible refine Below.alloc ?_ ?_ _); rotate_left; focus (first | omega | (simp; done) | (simp; omega))) | ((with_reducible refine Below.trans ?_ (Below.mono hb1 ?_)); rotate_left; focus (first | omega | (simp; done) | (simp; omega))) | ((with_reducible refine Below.trans ?_ (Below.mono hb2 ?_)); rotate_left; focus (first | omega | (simp; done) | (simp; omega)))))))).mono ?_
      rintro e w3 ⟨rfl, hb3⟩
      obtain ⟨hc3, hf3⟩ := bcell hb3; have hz3 := hb3.size; (try simp only [World.size_alloc, World.size_setCell, World.size_drew, sizeDrewN] at hz3 hc3 hf3)
      have hv : (Dat.mk k n s ds).okB = isDatB k n s ds := by
        cases hq : (Dat.mk k n s ds).okB with
        | true => exact (isDatB_yes ⟨by omega, by omega, Dat.okB_true.1 hq⟩).symm
        | false => exact (isDatB_no fun h => Dat.okB_false.1 hq h.2.2).symm
      go_wp2_with fail
      go_ret
      exact ⟨rfl, by (repeat (first | with_reducible assumption | with_reducible exact Below.refl _ _ | with_reducible refine Below.drew ?_ | with_reducible refine belowDrewN ?_ _ | ((with_reducible refine Below.setCell ?_ ?_ _); rotate_left; focus (first | omega | (simp; done) | (simp; omega))) | ((with_reducible refine Below.alloc ?_ ?_ _); rotate_left; focus (first | omega | (simp; done) | (simp; omega))) | ((with_reducible refine Below.trans ?_ (Below.mono hb1 ?_)); rotate_left; focus (first | omega | (simp; done) | (simp; omega))) | ((with_reducible refine Below.trans ?_ (Below.mono hb2 ?_)); rotate_left; focus (first | omega | (simp; done) | (simp; omega))) | ((with_reducible refine Below.trans ?_ (Below.mono hb3 ?_)); rotate_left; focus (first | omega | (simp; done) | (simp; omega)))))⟩
    · have hno := isDatB_no (k := k) (n := n) (s := s) (ds := ds) fun h => hdp (by have := h.2.1; omega)
      have HNO := Lib.hid hno; clear hno
      go_wp2_with fail
      go_ret
      exact ⟨ret_b HNO.out.symm, by (repeat (first | with_reducible assumption | with_reducible exact Below.refl _ _ | with_reducible refine Below.drew ?_ | with_reducible refine belowDrewN ?_ _ | ((with_reducible refine Below.setCell ?_ ?_ _); rotate_left; focus (first | omega | (simp; done) | (simp; omega))) | ((with_reducible refine Below.alloc ?_ ?_ _); rotate_left; focus (first | omega | (simp; done) | (simp; omega))) | ((with_reducible refine Below.trans ?_ (Below.mono hb1 ?_)); rotate_left; focus (first | omega | (simp; done) | (simp; omega))) | ((with_reducible refine Below.trans ?_ (Below.mono hb2 ?_)); rotate_left; focus (first | omega | (simp; done) | (simp; omega)))))⟩
  · have hneg : ¬ 0 ≤ few 600 (1 + Dat.countL ds) := by rw [few_neg hfew]; omega
    have hno := isDatB_no (k := k) (n := n) (s := s) (ds := ds) fun h => hfew (by have := h.1; omega)
    have HNO := Lib.hid hno; clear hno
    go_wp2_with fail
    go_ret
    exact ⟨ret_b HNO.out.symm, by (repeat (first | with_reducible assumption | with_reducible exact Below.refl _ _ | with_reducible refine Below.drew ?_ | with_reducible refine belowDrewN ?_ _ | ((with_reducible refine Below.setCell ?_ ?_ _); rotate_left; focus (first | omega | (simp; done) | (simp; omega))) | ((with_reducible refine Below.alloc ?_ ?_ _); rotate_left; focus (first | omega | (simp; done) | (simp; omega))) | ((with_reducible refine Below.trans ?_ (Below.mono hb1 ?_)); rotate_left; focus (first | omega | (simp; done) | (simp; omega)))))⟩
end Go.Proofs.YtghbnehocggnnaaDoor

/-
  Walks: AreData. No condition.
-/
set_option linter.unusedVariables false
set_option linter.unusedSimpArgs false
set_option maxRecDepth 100000
namespace Go.Proofs.YtghbnehocggnnaaDoor
open Go.RowKit

def AreP (ds : List Dat) : Prop := Dat.countL ds ≤ 600 ∧ Dat.depthL ds ≤ 20 ∧ ∀ d ∈ ds, d.ok
open Classical in
noncomputable def areB (ds : List Dat) : Bool := decide (AreP ds)
theorem areB_yes {ds : List Dat} (h : AreP ds) : areB ds = true := by simp [areB, h]
theorem areB_no {ds : List Dat} (h : ¬ AreP ds) : areB ds = false := by simp [areB, h]

theorem iAreData_calls (ds : List Dat) (a : Option Addr) (cap : Nat) (ms : List M) (w : World) (hwl : Dat.wfL ds) (hB : Dat.countL ds ≤ 1000000000) (hi : Dat.IsL 40 ds ms) (hin : (M.sl a cap 4 40 ms).In w) :
    Calls Tryd.prog 26 #[.slice a ms.length cap] w (Ret (.bool (areB ds)) w) := by
  have hl := hi.length
  have hcap := hin.len
  have HI := Lib.hid hi; clear hi; have HIN := Lib.hid hin; clear hin; have HWL := Lib.hid hwl; clear hwl; have HL := Lib.hid hl; clear hl
  go_enter Tryd.func26, Tryd.ntmps26
  go_wp2_with fail
  go_loopw [8] (fun i wr => ∃ (j : Nat), j ≤ ms.length ∧ i = .int .i64 j ∧ (j = 0 ∨ Dat.countL (ds.take j) ≤ 600) ∧ Dat.depthL (ds.take j) ≤ 20 ∧ (∀ x ∈ ds.take j, x.ok) ∧ (wr.cell? ⟨w.heap.size, 0, none⟩ = some (.int .i64 (Dat.countL (ds.take j))) ∧ wr.frozen? ⟨w.heap.size, 0, none⟩ = false) ∧ Below w.heap.size w wr ∧ w.heap.size + 1 ≤ wr.heap.size) (fun i _ => ms.length - (intOf i).toNat)
  case atStart => exact ⟨0, Nat.zero_le _, rfl, .inl rfl, by simp [Dat.depthL], by simp, by simp [go_sem, Dat.countL], by (repeat (first | with_reducible assumption | with_reducible exact Below.refl _ _ | with_reducible refine Below.drew ?_ | with_reducible refine belowDrewN ?_ _ | ((with_reducible refine Below.setCell ?_ ?_ _); rotate_left; focus (first | omega | (simp; done) | (simp; omega))) | ((with_reducible refine Below.alloc ?_ ?_ _); rotate_left; focus (first | omega | (simp; done) | (simp; omega))))), by simp⟩
  case round =>
    obtain ⟨j, hj, rfl, hct, hdp, hpre, ⟨q, qf⟩, hb, hsz⟩ := hrel
    by_cases hlt : j < ms.length
    · obtain ⟨b, off, k1, n1, s1, ds1, a1, cap1, ms1, rfl, hd, hi1, hin1, c0, c1, c2, c3⟩ := Dat.elem HIN.out HI.out j hlt
      have hbl := World.block_lt_of_cell? w _ c0
      simp only at hbl
      have e0 := (hb.cell (p := ⟨b, _, none⟩) hbl).trans c0
      have e1 := (hb.cell (p := ⟨b, _, none⟩) hbl).trans c1
      have e2 := (hb.cell (p := ⟨b, _, none⟩) hbl).trans c2
      have e3 := (hb.cell (p := ⟨b, _, none⟩) hbl).trans c3
      clear c0 c1 c2 c3
      obtain ⟨ht, hle⟩ := Dat.countL_le ds j _ hd
      have htd := Dat.depthL_take hd
      have hgd := Dat.depthL_get hd
      have hw1 := Dat.wfL_get HWL.out hd
      have hmem := List.mem_of_getElem? hd
      simp only [Dat.count] at hle ht
      simp only [Dat.depth] at htd hgd
      have hcp : Dat.countL (ds.take j) ≤ 600 := by
        rcases hct with rfl | h
        · simp [Dat.countL]
        · exact h
      have hbx := hb.alloc (by exact hb.size) (.cells #[.int .i64 k1, .int .i64 n1, .string s1, .slice a1 ms1.length cap1] 40)
      have q1 : (wr.alloc (.cells #[.int .i64 k1, .int .i64 n1, .string s1, .slice a1 ms1.length cap1] 40)).cell? ⟨w.heap.size, 0, none⟩ = some (.int .i64 (Dat.countL (ds.take j))) := by simp (disch := (first | omega | (simp; omega))) [go_sem, q]
      have q1f : (wr.alloc (.cells #[.int .i64 k1, .int .i64 n1, .string s1, .slice a1 ms1.length cap1] 40)).frozen? ⟨w.heap.size, 0, none⟩ = false := by simp (disch := (first | omega | (simp; omega))) [go_sem, qf]
      have hpr : w.heap.size < wr.heap.size := by omega
      have HD := Lib.hid hd; clear hd; have HI1 := Lib.hid hi1; clear hi1; have HIN1 := Lib.hid hin1; clear hin1; have HMEM := Lib.hid hmem; clear hmem; have HT := Lib.hid ht; clear ht; have HTD := Lib.hid htd; clear htd; have HGD := Lib.hid hgd; clear hgd; have HW1 := Lib.hid hw1; clear hw1; have HBX := Lib.hid hbx; clear hbx; have HPRE := Lib.hid hpre; clear hpre; have Q1 := Lib.hid q1; clear q1; have Q1F := Lib.hid q1f; clear q1f
      go_wp2_with fail
      refine (measure_calls ds1 k1 n1 s1 a1 cap1 ms1 1 w.heap.size (Dat.countL (ds.take j)) w _ HW1.out (by omega) HI1.out HIN1.out HBX.out (Nat.le_refl _) (by omega) (by omega) (by omega) (by omega) Q1.out Q1F.out).mono ?_
      rintro e w1 ⟨bb, C', rfl, hbb, hbc, hlo, hhi, q', qf', ho2⟩
      have hbf := ho2.low HBX.out (Nat.le_refl _)
      have hz2 := ho2.size
      simp only [World.size_alloc] at hz2
      cases bb with
      | true =>
        obtain ⟨m1, m2, m3⟩ := hbb.1 rfl
        have hcc := hbc rfl
        have hpre2 := ok_take HPRE.out HD.out m3
        have hdp2 : Dat.depthL (ds.take (j + 1)) ≤ 20 := by rw [HTD.out]; omega
        have hct2 : (Dat.countL (ds.take (j + 1)) : Int) = C' := by rw [HT.out, hcc]; push_cast; omega
        have HO2 := Lib.hid ho2; clear ho2; have HPRE2 := Lib.hid hpre2; clear hpre2; have HDP2 := Lib.hid hdp2; clear hdp2; have HBB := Lib.hid hbb; clear hbb; have HBC := Lib.hid hbc; clear hbc; have HCC := Lib.hid hcc; clear hcc; have M3 := Lib.hid m3; clear m3; have HBF := Lib.hid hbf; clear hbf
        go_wp2_with fail
        go_roundw
        case rel => exact ⟨j + 1, by omega, by go_num, .inr (by have := HCC.out; omega), HDP2.out, HPRE2.out, ⟨by rw [hct2]; exact q', qf'⟩, HBF.out, by omega⟩
        case measure => simp [intOf]; omega
      | false =>
        have hno : areB ds = false := areB_no fun h => by
          have : ¬ MsOk k1 n1 s1 ds1 1 (Dat.countL (ds.take j)) := fun h2 => by have := hbb.2 h2; simp at this
          apply this
          refine ⟨?_, ?_, h.2.2 _ HMEM.out⟩
          · have := HGD.out; have := h.2.1; omega
          · have := h.1; omega
        have HO2 := Lib.hid ho2; clear ho2; have HBB := Lib.hid hbb; clear hbb; have HBC := Lib.hid hbc; clear hbc; have HNO := Lib.hid hno; clear hno; have HBF := Lib.hid hbf; clear hbf
        go_wp2_with fail
        go_ret
        exact ⟨ret_b HNO.out.symm, HBF.out⟩
    · have hk2 : j = ms.length := by omega
      subst hk2
      have hd2 : ds.take ms.length = ds := by rw [HL.out, List.take_length]
      rw [hd2] at hct hdp hpre
      have hyes := areB_yes (ds := ds) ⟨by rcases hct with h | h; (have : ds = [] := by have := HL.out; cases ds; rfl; simp at this; omega); subst this; simp [Dat.countL]; exact h, hdp, hpre⟩
      have HD2 := Lib.hid hd2; clear hd2; have HYES := Lib.hid hyes; clear hyes; have HPRE := Lib.hid hpre; clear hpre
      go_wp2_with fail
      go_ret
      exact ⟨ret_b HYES.out.symm, hb⟩
theorem sAreData_calls (ds : List Dat) (a : Option Addr) (cap : Nat) (ms : List M) (w : World) (hwl : Dat.wfL ds) (hB : Dat.countL ds ≤ 1000000000) (hi : Dat.IsL 40 ds ms) (hin : (M.sl a cap 4 40 ms).In w) :
    Calls Tryd.prog 13 #[.slice a ms.length cap] w (Ret (.bool (areB ds)) w) := by
  have hl := hi.length
  have hcap := hin.len
  have HI := Lib.hid hi; clear hi; have HIN := Lib.hid hin; clear hin; have HWL := Lib.hid hwl; clear hwl; have HL := Lib.hid hl; clear hl
  go_enter Tryd.func13, Tryd.ntmps13
  go_wp2_with fail
  go_loopw [3, 8] (fun t i wr => ∃ (j : Nat), j ≤ ms.length ∧ i = .int .i64 j ∧ t = .int .i64 (Dat.countL (ds.take j)) ∧ Dat.depthL (ds.take j) ≤ 20 ∧ (∀ x ∈ ds.take j, x.ok) ∧ Below w.heap.size w wr ∧ w.heap.size ≤ wr.heap.size) (fun _ i _ => ms.length - (intOf i).toNat)
  case atStart => exact ⟨0, Nat.zero_le _, rfl, by simp [Dat.countL], by simp [Dat.depthL], by simp, by (repeat (first | with_reducible assumption | with_reducible exact Below.refl _ _ | with_reducible refine Below.drew ?_ | with_reducible refine belowDrewN ?_ _ | ((with_reducible refine Below.setCell ?_ ?_ _); rotate_left; focus (first | omega | (simp; done) | (simp; omega))) | ((with_reducible refine Below.alloc ?_ ?_ _); rotate_left; focus (first | omega | (simp; done) | (simp; omega))))), by simp⟩
  case round =>
    obtain ⟨j, hj, rfl, rfl, hdp, hpre, hb, hsz⟩ := hrel
    by_cases hlt : j < ms.length
    · obtain ⟨b, off, k1, n1, s1, ds1, a1, cap1, ms1, rfl, hd, hi1, hin1, c0, c1, c2, c3⟩ := Dat.elem (HIN.out.below hb) HI.out j hlt
      obtain ⟨ht, hle⟩ := Dat.countL_le ds j _ hd
      have htd := Dat.depthL_take hd
      have hgd := Dat.depthL_get hd
      have hw1 := Dat.wfL_get HWL.out hd
      have hmem := List.mem_of_getElem? hd
      simp only [Dat.count] at hle ht
      simp only [Dat.depth] at htd hgd
      cases hq : isDatB k1 n1 s1 ds1 with
      | true =>
        have hp : IsDatP k1 n1 s1 ds1 := by by_cases h : IsDatP k1 n1 s1 ds1; exact h; rw [isDatB_no h] at hq; cases hq
        have hpre2 := ok_take hpre hd hp.2.2
        have hdp2 : Dat.depthL (ds.take (j + 1)) ≤ 20 := by rw [htd]; have := hp.2.1; omega
        have hct2 : ((Dat.countL (ds.take (j + 1)) : Nat) : Int) = (Dat.countL (ds.take j) : Int) + ((1 + Dat.countL ds1 : Nat) : Int) := by rw [ht]; push_cast; omega
        have HD := Lib.hid hd; clear hd; have HI1 := Lib.hid hi1; clear hi1; have HIN1 := Lib.hid hin1; clear hin1; have HMEM := Lib.hid hmem; clear hmem; have HT := Lib.hid ht; clear ht; have HTD := Lib.hid htd; clear htd; have HGD := Lib.hid hgd; clear hgd; have HW1 := Lib.hid hw1; clear hw1; have HPRE := Lib.hid hpre; clear hpre; have HPRE2 := Lib.hid hpre2; clear hpre2; have HDP2 := Lib.hid hdp2; clear hdp2; have HCT2 := Lib.hid hct2; clear hct2; have HP := Lib.hid hp; clear hp
        go_wp2_with fail
        refine (sIsDatum_calls k1 n1 s1 ds1 a1 cap1 ms1 _ HW1.out (by omega) HI1.out (HIN1.out.below (by (repeat (first | with_reducible assumption | with_reducible exact Below.refl _ _ | with_reducible refine Below.drew ?_ | with_reducible refine belowDrewN ?_ _ | ((with_reducible refine Below.setCell ?_ ?_ _); rotate_left; focus (first | omega | (simp; done) | (simp; omega))) | ((with_reducible refine Below.alloc ?_ ?_ _); rotate_left; focus (first | omega | (simp; done) | (simp; omega)))))))).mono ?_
        rintro e w1 ⟨rfl, hb1⟩
        obtain ⟨hc1, hf1⟩ := bcell hb1; have hz1 := hb1.size; (try simp only [World.size_alloc, World.size_setCell, World.size_drew, sizeDrewN] at hz1 hc1 hf1)
        have hpr : wr.heap.size < w1.heap.size := by omega
        go_wp2_with fail
        refine (sCountNodes_calls ds1 k1 n1 s1 a1 cap1 ms1 _ (by omega) HI1.out (HIN1.out.below (by (repeat (first | with_reducible assumption | with_reducible exact Below.refl _ _ | with_reducible refine Below.drew ?_ | with_reducible refine belowDrewN ?_ _ | ((with_reducible refine Below.setCell ?_ ?_ _); rotate_left; focus (first | omega | (simp; done) | (simp; omega))) | ((with_reducible refine Below.alloc ?_ ?_ _); rotate_left; focus (first | omega | (simp; done) | (simp; omega))) | ((with_reducible refine Below.trans ?_ (Below.mono hb1 ?_)); rotate_left; focus (first | omega | (simp; done) | (simp; omega)))))))).mono ?_
        rintro e w2 ⟨rfl, hb2⟩
        obtain ⟨hc2, hf2⟩ := bcell hb2; have hz2 := hb2.size; (try simp only [World.size_alloc, World.size_setCell, World.size_drew, sizeDrewN] at hz2 hc2 hf2)
        go_wp2_with fail
        go_roundw
        case rel => exact ⟨j + 1, by omega, by go_num, by rw [HCT2.out]; go_num, HDP2.out, HPRE2.out, by (repeat (first | with_reducible assumption | with_reducible exact Below.refl _ _ | with_reducible refine Below.drew ?_ | with_reducible refine belowDrewN ?_ _ | ((with_reducible refine Below.setCell ?_ ?_ _); rotate_left; focus (first | omega | (simp; done) | (simp; omega))) | ((with_reducible refine Below.alloc ?_ ?_ _); rotate_left; focus (first | omega | (simp; done) | (simp; omega))) | ((with_reducible refine Below.trans ?_ (Below.mono hb1 ?_)); rotate_left; focus (first | omega | (simp; done) | (simp; omega))) | ((with_reducible refine Below.trans ?_ (Below.mono hb2 ?_)); rotate_left; focus (first | omega | (simp; done) | (simp; omega))))), by omega⟩
        case measure => simp [intOf]; omega
      | false =>
        have hno : areB ds = false := areB_no fun h => by
          have hp : IsDatP k1 n1 s1 ds1 := ⟨by have := h.1; omega, by have := h.2.1; omega, h.2.2 _ hmem⟩
          rw [isDatB_yes hp] at hq; cases hq
        have HD := Lib.hid hd; clear hd; have HI1 := Lib.hid hi1; clear hi1; have HIN1 := Lib.hid hin1; clear hin1; have HMEM := Lib.hid hmem; clear hmem; have HT := Lib.hid ht; clear ht; have HTD := Lib.hid htd; clear htd; have HGD := Lib.hid hgd; clear hgd; have HW1 := Lib.hid hw1; clear hw1; have HPRE := Lib.hid hpre; clear hpre; have HNO := Lib.hid hno; clear hno
        go_wp2_with fail
        refine (sIsDatum_calls k1 n1 s1 ds1 a1 cap1 ms1 _ HW1.out (by omega) HI1.out (HIN1.out.below (by (repeat (first | with_reducible assumption | with_reducible exact Below.refl _ _ | with_reducible refine Below.drew ?_ | with_reducible refine belowDrewN ?_ _ | ((with_reducible refine Below.setCell ?_ ?_ _); rotate_left; focus (first | omega | (simp; done) | (simp; omega))) | ((with_reducible refine Below.alloc ?_ ?_ _); rotate_left; focus (first | omega | (simp; done) | (simp; omega)))))))).mono ?_
        rintro e w1 ⟨rfl, hb1⟩
        obtain ⟨hc1, hf1⟩ := bcell hb1; have hz1 := hb1.size; (try simp only [World.size_alloc, World.size_setCell, World.size_drew, sizeDrewN] at hz1 hc1 hf1)
        go_wp2_with fail
        go_ret
        exact ⟨ret_b HNO.out.symm, by (repeat (first | with_reducible assumption | with_reducible exact Below.refl _ _ | with_reducible refine Below.drew ?_ | with_reducible refine belowDrewN ?_ _ | ((with_reducible refine Below.setCell ?_ ?_ _); rotate_left; focus (first | omega | (simp; done) | (simp; omega))) | ((with_reducible refine Below.alloc ?_ ?_ _); rotate_left; focus (first | omega | (simp; done) | (simp; omega))) | ((with_reducible refine Below.trans ?_ (Below.mono hb1 ?_)); rotate_left; focus (first | omega | (simp; done) | (simp; omega)))))⟩
    · have hk2 : j = ms.length := by omega
      subst hk2
      have hd2 : ds.take ms.length = ds := by rw [HL.out, List.take_length]
      have hfin : areB ds = decide ((Dat.countL (ds.take ms.length) : Int) ≤ 600) := by
        rw [hd2] at hdp hpre ⊢
        by_cases h : Dat.countL ds ≤ 600
        · rw [areB_yes ⟨h, hdp, hpre⟩]; simp; omega
        · rw [areB_no fun hp => h hp.1]; simp; omega
      have HD2 := Lib.hid hd2; clear hd2; have HPRE := Lib.hid hpre; clear hpre; have HFIN := Lib.hid hfin; clear hfin
      go_wp2_with fail
      go_ret
      exact ⟨ret_b HFIN.out.symm, hb⟩
end Go.Proofs.YtghbnehocggnnaaDoor

/-
  Data read from a text, in plain terms. No condition.
-/
set_option linter.unusedVariables false
set_option linter.unusedSimpArgs false
namespace Go.Proofs.YtghbnehocggnnaaDoor
open Go.RowKit

def blankB (b : UInt8) : Bool := b == 32 || (b == 10 || b == 9)
def endB (b : UInt8) : Bool := b == 32 || (b == 10 || (b == 9 || (b == 40 || (b == 41 || (b == 34 || (b == 59 || b == 39))))))
mutual
def skipL : List UInt8 → List UInt8
  | [] => []
  | b :: r => if blankB b = true then skipL r else if b = 59 then skipC r else b :: r
def skipC : List UInt8 → List UInt8
  | [] => []
  | b :: r => if b = 10 then skipL r else skipC r
end
theorem skipL_nil : skipL [] = [] := by rw [skipL]
theorem skipC_nil : skipC [] = [] := by rw [skipC]
theorem skipL_blank {b : UInt8} (h : blankB b = true) (r : List UInt8) : skipL (b :: r) = skipL r := by rw [skipL, if_pos h]
theorem skipL_semi (r : List UInt8) : skipL (59 :: r) = skipC r := by rw [skipL, if_neg (by decide), if_pos rfl]
theorem skipL_stop {b : UInt8} (h : blankB b = false) (h2 : b ≠ 59) (r : List UInt8) : skipL (b :: r) = b :: r := by rw [skipL, if_neg (by simp [h]), if_neg h2]
theorem skipC_line (r : List UInt8) : skipC (10 :: r) = skipL (10 :: r) := by rw [skipC, if_pos rfl, skipL_blank (by decide)]
theorem skipC_step {b : UInt8} (h : b ≠ 10) (r : List UInt8) : skipC (b :: r) = skipC r := by rw [skipC, if_neg h]
mutual
theorem skipL_le : ∀ l : List UInt8, (skipL l).length ≤ l.length
  | [] => by rw [skipL]; exact Nat.le_refl _
  | b :: r => by
    rw [skipL]
    split
    · have := skipL_le r; simp only [List.length_cons]; omega
    · split
      · have := skipC_le r; simp only [List.length_cons]; omega
      · exact Nat.le_refl _
theorem skipC_le : ∀ l : List UInt8, (skipC l).length ≤ l.length
  | [] => by rw [skipC]; exact Nat.le_refl _
  | b :: r => by
    rw [skipC]
    split
    · have := skipL_le r; simp only [List.length_cons]; omega
    · have := skipC_le r; simp only [List.length_cons]; omega
end
mutual
theorem skipL_head : ∀ l : List UInt8, ∀ b r, skipL l = b :: r → blankB b = false ∧ b ≠ 59
  | [], b, r, h => by rw [skipL] at h; cases h
  | c :: t, b, r, h => by
    rw [skipL] at h
    split at h
    · exact skipL_head t b r h
    · split at h
      · exact skipC_head t b r h
      · rename_i h1 h2
        simp only [List.cons.injEq] at h
        rw [← h.1]
        exact ⟨by simpa using h1, h2⟩
theorem skipC_head : ∀ l : List UInt8, ∀ b r, skipC l = b :: r → blankB b = false ∧ b ≠ 59
  | [], b, r, h => by rw [skipC] at h; cases h
  | c :: t, b, r, h => by
    rw [skipC] at h
    split at h
    · exact skipL_head t b r h
    · exact skipC_head t b r h
end
theorem skipL_idem (l : List UInt8) : skipL (skipL l) = skipL l := by
  cases h : skipL l with
  | nil => exact skipL_nil
  | cons b r => have := skipL_head l b r h; exact skipL_stop this.1 this.2 r

/-- the datum of a run of bytes -/
noncomputable def atomD (s : ByteArray) : Option Dat :=
  match numOf s.data.toList with
  | some n => some (.mk 2 n ⟨#[]⟩ [])
  | none => if s.data.toList = [35, 116] then some (.mk 3 1 ⟨#[]⟩ []) else if s.data.toList = [35, 102] then some (.mk 3 0 ⟨#[]⟩ []) else if isSymB s = true then some (.mk 1 0 s []) else none
def runB (b : UInt8) : Bool := !endB b
def noQuote (b : UInt8) : Bool := b != 34
noncomputable def atomR (l : List UInt8) : Option (Dat × List UInt8) :=
  match atomD ⟨(l.takeWhile runB).toArray⟩ with
  | none => none
  | some d => some (d, l.dropWhile runB)
noncomputable def strR (l : List UInt8) : Option (Dat × List UInt8) :=
  match l.dropWhile noQuote with
  | [] => none
  | _ :: r => if strB ⟨(l.takeWhile noQuote).toArray⟩ = true then some (.mk 4 0 ⟨(l.takeWhile noQuote).toArray⟩ [], r) else none
def quoteD : Dat := .mk 1 0 ⟨#[113, 117, 111, 116, 101]⟩ []
mutual
/-- one datum, and what is left of the text -/
noncomputable def rd (l : List UInt8) : Option (Dat × List UInt8) :=
  match h : skipL l with
  | [] => none
  | b :: r =>
    if b = 41 then none
    else if b = 39 then (match rd r with
      | none => none
      | some (d, r') => some (.mk 0 0 ⟨#[]⟩ [quoteD, d], r'))
    else if b = 34 then strR r
    else if b = 40 then (match rdL r with
      | none => none
      | some (ds, r') => some (.mk 0 0 ⟨#[]⟩ ds, r'))
    else atomR (b :: r)
termination_by (l.length, 0)
decreasing_by
  all_goals (have := skipL_le l; rw [h] at this; simp only [List.length_cons] at this; exact Prod.Lex.left _ _ (by omega))
/-- data up to the bracket that closes -/
noncomputable def rdL (l : List UInt8) : Option (List Dat × List UInt8) :=
  match skipL l with
  | [] => none
  | b :: r =>
    if b = 41 then some ([], r)
    else match rd l with
      | none => none
      | some (d, r') => if _h : r'.length < l.length then (match rdL r' with
          | none => none
          | some (ds, r2) => some (d :: ds, r2)) else none
termination_by (l.length, 1)
decreasing_by
  · exact Prod.Lex.right _ (by omega)
  · exact Prod.Lex.left _ _ (by omega)
end
theorem rd_nil {l : List UInt8} (h : skipL l = []) : rd l = none := by
  rw [rd]; split
  · rfl
  · rename_i h2; rw [h] at h2; cases h2
theorem rd_cons {l : List UInt8} {b : UInt8} {r : List UInt8} (h : skipL l = b :: r) : rd l = if b = 41 then none
    else if b = 39 then (match rd r with
      | none => none
      | some (d, r') => some (.mk 0 0 ⟨#[]⟩ [quoteD, d], r'))
    else if b = 34 then strR r
    else if b = 40 then (match rdL r with
      | none => none
      | some (ds, r') => some (.mk 0 0 ⟨#[]⟩ ds, r'))
    else atomR (b :: r) := by
  rw [rd]; split
  · rename_i h2; rw [h] at h2; cases h2
  · rename_i b' r' h2
    rw [h] at h2
    simp only [List.cons.injEq] at h2
    obtain ⟨rfl, rfl⟩ := h2
    rfl
theorem dropWhile_le {p : UInt8 → Bool} : ∀ l : List UInt8, (l.dropWhile p).length ≤ l.length
  | [] => Nat.le_refl _
  | b :: r => by
    rw [List.dropWhile_cons]
    split
    · have := dropWhile_le (p := p) r; simp only [List.length_cons]; omega
    · exact Nat.le_refl _
theorem takeWhile_le {p : UInt8 → Bool} : ∀ l : List UInt8, (l.takeWhile p).length ≤ l.length
  | [] => Nat.le_refl _
  | b :: r => by
    rw [List.takeWhile_cons]
    split
    · have := takeWhile_le (p := p) r; simp only [List.length_cons]; omega
    · simp
theorem atomD_leaf {s : ByteArray} {d : Dat} (h : atomD s = some d) : d.count = 1 ∧ (s.size ≤ 9223372036854775807 → d.wf) := by
  unfold atomD at h
  split at h
  · rename_i n hn
    cases h
    have := numOf_some hn
    exact ⟨by simp [Dat.count, Dat.countL], fun _ => ⟨by unfold I64; omega, by unfold I64; omega, by show (0 : Nat) ≤ _; omega, trivial⟩⟩
  · split at h
    · cases h
      exact ⟨by simp [Dat.count, Dat.countL], fun _ => ⟨by unfold I64; omega, by unfold I64; omega, by show (0 : Nat) ≤ _; omega, trivial⟩⟩
    · split at h
      · cases h
        exact ⟨by simp [Dat.count, Dat.countL], fun _ => ⟨by unfold I64; omega, by unfold I64; omega, by show (0 : Nat) ≤ _; omega, trivial⟩⟩
      · split at h
        · cases h
          exact ⟨by simp [Dat.count, Dat.countL], fun hs => ⟨by unfold I64; omega, by unfold I64; omega, hs, trivial⟩⟩
        · cases h
theorem runB_head {b : UInt8} (h1 : blankB b = false) (h2 : b ≠ 59) (h3 : b ≠ 41) (h4 : b ≠ 39) (h5 : b ≠ 34) (h6 : b ≠ 40) : runB b = true := by
  unfold blankB at h1
  unfold runB endB
  simp only [Bool.or_eq_false_iff, beq_eq_false_iff_ne, ne_eq] at h1
  simp [h1.1, h1.2.1, h1.2.2, h2, h3, h4, h5, h6]
/-- what is read is shorter by at least half its nodes, and its numbers are Go's -/
structure RdOk (l : List UInt8) (d : Dat) (r : List UInt8) : Prop where
  lt : r.length < l.length
  ct : d.count + 2 * r.length ≤ 2 * l.length
  wf : l.length ≤ 9223372036854775807 → d.wf
structure RdLOk (l : List UInt8) (ds : List Dat) (r : List UInt8) : Prop where
  lt : r.length < l.length
  ct : 1 + Dat.countL ds + 2 * r.length ≤ 2 * l.length
  wf : l.length ≤ 9223372036854775807 → Dat.wfL ds
theorem quoteD_wf : quoteD.wf := ⟨by unfold I64; omega, by unfold I64; omega, by show (5 : Nat) ≤ _; omega, trivial⟩
theorem rd_both : ∀ n : Nat, ∀ l : List UInt8, l.length ≤ n → (∀ d r, rd l = some (d, r) → RdOk l d r) ∧ (∀ ds r, rdL l = some (ds, r) → RdLOk l ds r) := by
  intro n
  induction n with
  | zero =>
    intro l hl
    have : l = [] := List.length_eq_zero_iff.1 (by omega)
    subst this
    refine ⟨fun d r h => ?_, fun ds r h => ?_⟩
    · rw [rd_nil skipL_nil] at h; cases h
    · rw [rdL, skipL_nil] at h; cases h
  | succ n ih =>
    intro l hl
    have hA : ∀ d r, rd l = some (d, r) → RdOk l d r := by
      intro d r h
      have hle := skipL_le l
      cases hs : skipL l with
      | nil => rw [rd_nil hs] at h; cases h
      | cons b t =>
        rw [hs] at hle
        simp only [List.length_cons] at hle
        rw [rd_cons hs] at h
        split at h
        · cases h
        · split at h
          · split at h
            · cases h
            · rename_i d1 r1 h1
              cases h
              obtain ⟨k1, k2, k3⟩ := (ih t (by omega)).1 _ _ h1
              refine ⟨by omega, ?_, fun hz => ⟨by unfold I64; omega, by unfold I64; omega, by show (0 : Nat) ≤ _; omega, quoteD_wf, k3 (by omega), trivial⟩⟩
              simp only [Dat.count, Dat.countL, quoteD]; omega
          · split at h
            · unfold strR at h
              have hd := dropWhile_le (p := noQuote) t
              have ht := takeWhile_le (p := noQuote) t
              split at h
              · cases h
              · rename_i c r1 h1
                rw [h1] at hd
                simp only [List.length_cons] at hd
                split at h
                · cases h
                  refine ⟨by omega, ?_, fun hz => ⟨by unfold I64; omega, by unfold I64; omega, ?_, trivial⟩⟩
                  · simp only [Dat.count, Dat.countL]; omega
                  · show (t.takeWhile noQuote).length ≤ _; omega
                · cases h
            · split at h
              · split at h
                · cases h
                · rename_i ds1 r1 h1
                  cases h
                  obtain ⟨k1, k2, k3⟩ := (ih t (by omega)).2 _ _ h1
                  refine ⟨by omega, ?_, fun hz => ⟨by unfold I64; omega, by unfold I64; omega, by show (0 : Nat) ≤ _; omega, k3 (by omega)⟩⟩
                  simp only [Dat.count]; omega
              · rename_i h41 h39 h34 h40
                unfold atomR at h
                split at h
                · cases h
                · rename_i d1 h1
                  cases h
                  have hh := skipL_head l b t hs
                  have hrun := runB_head hh.1 hh.2 h41 h39 h34 h40
                  have hd := dropWhile_le (p := runB) t
                  have ht := takeWhile_le (p := runB) (b :: t)
                  simp only [List.length_cons] at ht
                  rw [List.dropWhile_cons, if_pos hrun]
                  obtain ⟨k1, k2⟩ := atomD_leaf h1
                  exact ⟨by omega, by omega, fun hz => k2 (by show ((b :: t).takeWhile runB).length ≤ _; omega)⟩
    refine ⟨hA, fun ds r h => ?_⟩
    have hle := skipL_le l
    rw [rdL] at h
    split at h
    · cases h
    · rename_i b t hs
      rw [hs] at hle
      simp only [List.length_cons] at hle
      split at h
      · cases h
        refine ⟨by omega, ?_, fun _ => trivial⟩
        simp only [Dat.countL]; omega
      · split at h
        · cases h
        · rename_i d1 r1 h1
          obtain ⟨k1, k2, k3⟩ := hA _ _ h1
          rw [dif_pos k1] at h
          split at h
          · cases h
          · rename_i ds2 r2 h2
            cases h
            obtain ⟨j1, j2, j3⟩ := (ih r1 (by omega)).2 _ _ h2
            refine ⟨by omega, ?_, fun hz => ⟨k3 hz, j3 (by omega)⟩⟩
            simp only [Dat.countL]; omega
theorem rd_ok {l : List UInt8} {d : Dat} {r : List UInt8} (h : rd l = some (d, r)) : RdOk l d r := (rd_both _ l (Nat.le_refl _)).1 d r h
theorem rdL_ok {l : List UInt8} {ds : List Dat} {r : List UInt8} (h : rdL l = some (ds, r)) : RdLOk l ds r := (rd_both _ l (Nat.le_refl _)).2 ds r h
theorem rdL_nil {l : List UInt8} (h : skipL l = []) : rdL l = none := by rw [rdL, h]
theorem rdL_end {l r : List UInt8} (h : skipL l = 41 :: r) : rdL l = some ([], r) := by rw [rdL, h]; simp
def preL {α : Type} (ds : List Dat) : Option (List Dat × α) → Option (List Dat × α)
  | none => none
  | some (es, r) => some (ds ++ es, r)
theorem preL_nil {α : Type} (x : Option (List Dat × α)) : preL [] x = x := by cases x <;> rfl
theorem preL_preL {α : Type} (ds es : List Dat) (x : Option (List Dat × α)) : preL ds (preL es x) = preL (ds ++ es) x := by
  cases x with
  | none => rfl
  | some x => simp [preL]
theorem rdL_bad {l : List UInt8} {b : UInt8} {r : List UInt8} (h : skipL l = b :: r) (hb : b ≠ 41) (hn : rd l = none) : rdL l = none := by
  rw [rdL, h]; simp only [if_neg hb, hn]
theorem rdL_step {l : List UInt8} {b : UInt8} {r : List UInt8} (h : skipL l = b :: r) (hb : b ≠ 41) {d : Dat} {r' : List UInt8} (hn : rd l = some (d, r')) : rdL l = preL [d] (rdL r') := by
  have hlt := (rd_ok hn).lt
  rw [rdL, h]; simp only [if_neg hb, hn, dif_pos hlt]
  cases rdL r' with
  | none => rfl
  | some x => rfl
theorem rd_skip {l m : List UInt8} (h : skipL l = skipL m) : rd l = rd m := by
  cases hs : skipL m with
  | nil => rw [rd_nil hs, rd_nil (h.trans hs)]
  | cons b r => rw [rd_cons hs, rd_cons (h.trans hs)]
/-- all data of a text -/
noncomputable def rdA (l : List UInt8) : Option (List Dat) :=
  match skipL l with
  | [] => some []
  | _ :: _ => match rd l with
    | none => none
    | some (d, r') => if _h : r'.length < l.length then (match rdA r' with
        | none => none
        | some ds => some (d :: ds)) else none
termination_by l.length
def preA (ds : List Dat) : Option (List Dat) → Option (List Dat)
  | none => none
  | some es => some (ds ++ es)
theorem preA_nil (x : Option (List Dat)) : preA [] x = x := by cases x <;> rfl
theorem preA_preA (ds es : List Dat) (x : Option (List Dat)) : preA ds (preA es x) = preA (ds ++ es) x := by
  cases x with
  | none => rfl
  | some x => simp [preA]
theorem rdA_end {l : List UInt8} (h : skipL l = []) : rdA l = some [] := by rw [rdA, h]
theorem rdA_bad {l : List UInt8} {b : UInt8} {r : List UInt8} (h : skipL l = b :: r) (hn : rd l = none) : rdA l = none := by
  rw [rdA, h]; simp only [hn]
theorem rdA_step {l : List UInt8} {b : UInt8} {r : List UInt8} (h : skipL l = b :: r) {d : Dat} {r' : List UInt8} (hn : rd l = some (d, r')) : rdA l = preA [d] (rdA r') := by
  have hlt := (rd_ok hn).lt
  rw [rdA, h]; simp only [hn, dif_pos hlt]
  cases rdA r' with
  | none => rfl
  | some x => rfl
theorem rdA_ok : ∀ n : Nat, ∀ l : List UInt8, l.length ≤ n → ∀ ds, rdA l = some ds → Dat.countL ds ≤ 2 * l.length ∧ (l.length ≤ 9223372036854775807 → Dat.wfL ds) := by
  intro n
  induction n with
  | zero =>
    intro l hl ds h
    have : l = [] := List.length_eq_zero_iff.1 (by omega)
    subst this
    rw [rdA_end skipL_nil] at h
    cases h
    exact ⟨by simp [Dat.countL], fun _ => trivial⟩
  | succ n ih =>
    intro l hl ds h
    cases hs : skipL l with
    | nil => rw [rdA_end hs] at h; cases h; exact ⟨by simp [Dat.countL], fun _ => trivial⟩
    | cons b t =>
      cases hr : rd l with
      | none => rw [rdA_bad hs hr] at h; cases h
      | some x =>
        obtain ⟨d, r⟩ := x
        rw [rdA_step hs hr] at h
        obtain ⟨k1, k2, k3⟩ := rd_ok hr
        cases hr2 : rdA r with
        | none => rw [hr2] at h; cases h
        | some es =>
          rw [hr2] at h
          cases h
          obtain ⟨j1, j2⟩ := ih r (by omega) es hr2
          refine ⟨by simp only [List.singleton_append, Dat.countL]; omega, fun hz => ⟨k3 hz, j2 (by omega)⟩⟩
/-- what ParseData finds -/
noncomputable def parseB (s : ByteArray) : Option (List Dat) :=
  if 15000 < s.size then none else match rdA s.data.toList with
    | none => none
    | some ds => if areB ds = true then some ds else none
theorem parse_big {s : ByteArray} (h : 15000 < s.size) : parseB s = none := by unfold parseB; rw [if_pos h]
theorem parse_bad {s : ByteArray} (h : ¬ 15000 < s.size) (h2 : rdA s.data.toList = none) : parseB s = none := by unfold parseB; rw [if_neg h, h2]
theorem parse_not {s : ByteArray} (h : ¬ 15000 < s.size) {ds : List Dat} (h2 : rdA s.data.toList = some ds) (h3 : areB ds = false) : parseB s = none := by unfold parseB; rw [if_neg h, h2]; simp [h3]
theorem parse_yes {s : ByteArray} (h : ¬ 15000 < s.size) {ds : List Dat} (h2 : rdA s.data.toList = some ds) (h3 : areB ds = true) : parseB s = some ds := by unfold parseB; rw [if_neg h, h2]; simp [h3]

/-! ### runs of bytes by their places -/
structure Span (p : UInt8 → Bool) (L : List UInt8) (a j : Nat) : Prop where
  le : a ≤ j
  tk : (L.drop a).takeWhile p = (L.drop a).take (j - a) ++ (L.drop j).takeWhile p
  dr : (L.drop a).dropWhile p = (L.drop j).dropWhile p
theorem Span.start (p : UInt8 → Bool) (L : List UInt8) (a : Nat) : Span p L a a := ⟨Nat.le_refl _, by simp, rfl⟩
theorem Span.step {p : UInt8 → Bool} {L : List UInt8} {a j : Nat} (h : Span p L a j) (hj : j < L.length) (hp : p L[j] = true) : Span p L a (j + 1) := by
  obtain ⟨h1, h2, h3⟩ := h
  have hd : L.drop j = L[j] :: L.drop (j + 1) := List.drop_eq_getElem_cons hj
  refine ⟨by omega, ?_, ?_⟩
  · rw [h2, hd, List.takeWhile_cons, if_pos hp]
    have hg : (L.drop a)[j - a]? = some L[j] := by
      rw [List.getElem?_drop, show a + (j - a) = j by omega]
      exact List.getElem?_eq_getElem hj
    rw [show j + 1 - a = (j - a) + 1 by omega, List.take_add_one, hg]
    simp
  · rw [h3, hd, List.dropWhile_cons, if_pos hp]
theorem Span.stop {p : UInt8 → Bool} {L : List UInt8} {a j : Nat} (h : Span p L a j) (hj : j < L.length) (hp : p L[j] = false) :
    (L.drop a).takeWhile p = (L.drop a).take (j - a) ∧ (L.drop a).dropWhile p = L.drop j := by
  obtain ⟨h1, h2, h3⟩ := h
  have hd : L.drop j = L[j] :: L.drop (j + 1) := List.drop_eq_getElem_cons hj
  refine ⟨?_, ?_⟩
  · rw [h2, hd, List.takeWhile_cons, if_neg (by simp [hp])]; simp
  · rw [h3, hd, List.dropWhile_cons, if_neg (by simp [hp])]
theorem Span.out {p : UInt8 → Bool} {L : List UInt8} {a j : Nat} (h : Span p L a j) (hj : L.length ≤ j) :
    (L.drop a).takeWhile p = (L.drop a).take (j - a) ∧ (L.drop a).dropWhile p = L.drop j ∧ L.drop j = [] := by
  obtain ⟨h1, h2, h3⟩ := h
  have hd : L.drop j = [] := List.drop_of_length_le hj
  rw [hd] at h2 h3 ⊢
  exact ⟨by simpa using h2, by simpa using h3, rfl⟩
theorem extract_list (s : ByteArray) (a b : Nat) : (s.extract a b).data.toList = (s.data.toList.drop a).take (b - a) := by
  rw [ByteArray.data_extract, Array.toList_extract, List.extract_eq_take_drop]
theorem extract_eq {s : ByteArray} {a b : Nat} {t : List UInt8} (h : (s.data.toList.drop a).take (b - a) = t) : s.extract a b = ⟨t.toArray⟩ := by
  apply ByteArray.ext
  rw [← h, ← extract_list]
end Go.Proofs.YtghbnehocggnnaaDoor

/-
  The library's contracts on strconv.Itoa and strconv.AppendInt, laid at this program (written by the kit's lay-shelf.mjs and lay-plain.mjs at one seat: its numbers; wip/tools/shelf.py). Conditions: those told with each.
-/
namespace Go.Proofs
open Go.Shelf
def Tryd.laysM171_ren : Go.Shelf.Ren := ⟨fun | 171 => 49 | 243 => 72 | 246 => 78 | 283 => 80 | 284 => 81 | 285 => 82 | 286 => 83 | 129 => 87 | 317 => 86 | 318 => 88 | 319 => 89 | 320 => 90 | 337 => 96 | 338 => 97 | n => n, fun | 3 => 3 | 9 => 9 | 2 => 2 | 4 => 4 | 171 => 97 | 0 => 0 | 53 => 90 | 37 => 31 | 5 => 5 | 173 => 100 | 212 => 104 | 51 => 105 | 20 => 20 | 213 => 106 | 46 => 89 | 232 => 122 | 233 => 123 | n => n, fun | 17 => 0 | 18 => 3 | 19 => 4 | n => n⟩
theorem Tryd.laysM171 : Go.Proofs.LaysM.n171 Tryd.prog Tryd.laysM171_ren := {
  mixed := by kernel_rfl
  f129 := Tryd.func87.trans (congrArg some (by kernel_rfl))
  f171 := Tryd.func49.trans (congrArg some (by kernel_rfl))
  f243 := Tryd.func72.trans (congrArg some (by kernel_rfl))
  f246 := Tryd.func78.trans (congrArg some (by kernel_rfl))
  f283 := Tryd.func80.trans (congrArg some (by kernel_rfl))
  f284 := Tryd.func81.trans (congrArg some (by kernel_rfl))
  f285 := Tryd.func82.trans (congrArg some (by kernel_rfl))
  f286 := Tryd.func83.trans (congrArg some (by kernel_rfl))
  f317 := Tryd.func86.trans (congrArg some (by kernel_rfl))
  f318 := Tryd.func88.trans (congrArg some (by kernel_rfl))
  f319 := Tryd.func89.trans (congrArg some (by kernel_rfl))
  f320 := Tryd.func90.trans (congrArg some (by kernel_rfl))
  f337 := Tryd.func96.trans (congrArg some (by kernel_rfl))
  f338 := Tryd.func97.trans (congrArg some (by kernel_rfl))
  t0 := Tryd.underlying0
  a0 := Tryd.isAgg0
  z0 := Tryd.sizeOf0
  v0 := Tryd.zeroValue0
  t2 := Tryd.underlying2
  a2 := Tryd.isAgg2
  z2 := Tryd.sizeOf2
  v2 := Tryd.zeroValue2
  t3 := Tryd.underlying3
  a3 := Tryd.isAgg3
  z3 := Tryd.sizeOf3
  v3 := Tryd.zeroValue3
  t4 := Tryd.underlying4
  a4 := Tryd.isAgg4
  z4 := Tryd.sizeOf4
  v4 := Tryd.zeroValue4
  t5 := Tryd.underlying5
  a5 := Tryd.isAgg5
  z5 := Tryd.sizeOf5
  v5 := Tryd.zeroValue5
  t9 := Tryd.underlying9
  a9 := Tryd.isAgg9
  z9 := Tryd.sizeOf9
  v9 := Tryd.zeroValue9
  t20 := Tryd.underlying20
  a20 := Tryd.isAgg20
  z20 := Tryd.sizeOf20
  v20 := Tryd.zeroValue20
  t37 := Tryd.underlying31
  a37 := Tryd.isAgg31
  z37 := Tryd.sizeOf31
  v37 := Tryd.zeroValue31
  t46 := Tryd.underlying89
  a46 := Tryd.isAgg89
  z46 := Tryd.sizeOf89
  v46 := Tryd.zeroValue89
  t51 := Tryd.underlying105
  a51 := Tryd.isAgg105
  z51 := Tryd.sizeOf105
  v51 := Tryd.zeroValue105
  t53 := Tryd.underlying90
  a53 := Tryd.isAgg90
  z53 := Tryd.sizeOf90
  v53 := Tryd.zeroValue90
  t171 := Tryd.underlying97
  a171 := Tryd.isAgg97
  z171 := Tryd.sizeOf97
  v171 := Tryd.zeroValue97
  t173 := Tryd.underlying100
  a173 := Tryd.isAgg100
  z173 := Tryd.sizeOf100
  v173 := Tryd.zeroValue100
  t212 := Tryd.underlying104
  a212 := Tryd.isAgg104
  z212 := Tryd.sizeOf104
  v212 := Tryd.zeroValue104
  t213 := Tryd.underlying106
  a213 := Tryd.isAgg106
  z213 := Tryd.sizeOf106
  t232 := Tryd.underlying122
  a232 := Tryd.isAgg122
  z232 := Tryd.sizeOf122
  v232 := Tryd.zeroValue122
  t233 := Tryd.underlying123
  a233 := Tryd.isAgg123
  z233 := Tryd.sizeOf123
  v233 := Tryd.zeroValue123
  g17 := by kernel_rfl
  g18 := by kernel_rfl
  g19 := by kernel_rfl
  i0 := by kernel_rfl
  i2 := by kernel_rfl
  i3 := by kernel_rfl
  i4 := by kernel_rfl
  i5 := by kernel_rfl
  i9 := by kernel_rfl
  i20 := by kernel_rfl
  i37 := by kernel_rfl
  i46 := by kernel_rfl
  i51 := by kernel_rfl
  i53 := by kernel_rfl
  i171 := by kernel_rfl
  i173 := by kernel_rfl
  i212 := by kernel_rfl
  i232 := by kernel_rfl
  i233 := by kernel_rfl
  m17 := by kernel_rfl
  m18 := by kernel_rfl
  m19 := by kernel_rfl }
open Go.RowKit Go.Sort Go.Lib in
/-- strconv.Itoa: "Itoa is equivalent to FormatInt(int64(i), 10).": i's DECIMAL NUMERAL ('Lib.itoa': a '-' where i is negative, then the digits), FOR EVERY int. The world behind the call: the world before it, new blocks behind the heap (the library's 'var a [24]byte'), draws. (LAID: no walk: one application.) -/
theorem Tryd.strconv_Itoa (n : Int) (h0 : -9223372036854775808 ≤ n) (h1 : n ≤ 9223372036854775807) (w : World) (htab : Lib.TabIs Tryd.prog w "internal/strconv.uint64pow10" .u64 Lib.pow10Tab) :
    Calls Tryd.prog 49 #[.int .i64 n] w fun e w' => e = .returned (.string ⟨(Lib.itoa n).toArray⟩) ∧ ∃ k os, w' = grow (w.drewN k) os := Any.strconv_Itoa Tryd.laysM171 n h0 h1 w htab
def Tryd.laysM176_ren : Go.Shelf.Ren := ⟨fun | 176 => 48 | 249 => 71 | 288 => 77 | 283 => 80 | 284 => 81 | 285 => 82 | 286 => 83 | 129 => 87 | 317 => 86 | 318 => 88 | 319 => 89 | 320 => 90 | 337 => 96 | 338 => 97 | n => n, fun | 37 => 31 | 2 => 2 | 3 => 3 | 53 => 90 | 4 => 4 | 9 => 9 | 171 => 97 | 0 => 0 | 173 => 100 | 212 => 104 | 51 => 105 | 5 => 5 | 20 => 20 | 213 => 106 | 46 => 89 | 232 => 122 | 233 => 123 | n => n, fun | 17 => 0 | 18 => 3 | 19 => 4 | n => n⟩
theorem Tryd.laysM176 : Go.Proofs.LaysM.n176 Tryd.prog Tryd.laysM176_ren := {
  mixed := by kernel_rfl
  f129 := Tryd.func87.trans (congrArg some (by kernel_rfl))
  f176 := Tryd.func48.trans (congrArg some (by kernel_rfl))
  f249 := Tryd.func71.trans (congrArg some (by kernel_rfl))
  f283 := Tryd.func80.trans (congrArg some (by kernel_rfl))
  f284 := Tryd.func81.trans (congrArg some (by kernel_rfl))
  f285 := Tryd.func82.trans (congrArg some (by kernel_rfl))
  f286 := Tryd.func83.trans (congrArg some (by kernel_rfl))
  f288 := Tryd.func77.trans (congrArg some (by kernel_rfl))
  f317 := Tryd.func86.trans (congrArg some (by kernel_rfl))
  f318 := Tryd.func88.trans (congrArg some (by kernel_rfl))
  f319 := Tryd.func89.trans (congrArg some (by kernel_rfl))
  f320 := Tryd.func90.trans (congrArg some (by kernel_rfl))
  f337 := Tryd.func96.trans (congrArg some (by kernel_rfl))
  f338 := Tryd.func97.trans (congrArg some (by kernel_rfl))
  t0 := Tryd.underlying0
  a0 := Tryd.isAgg0
  z0 := Tryd.sizeOf0
  v0 := Tryd.zeroValue0
  t2 := Tryd.underlying2
  a2 := Tryd.isAgg2
  z2 := Tryd.sizeOf2
  v2 := Tryd.zeroValue2
  t3 := Tryd.underlying3
  a3 := Tryd.isAgg3
  z3 := Tryd.sizeOf3
  v3 := Tryd.zeroValue3
  t4 := Tryd.underlying4
  a4 := Tryd.isAgg4
  z4 := Tryd.sizeOf4
  v4 := Tryd.zeroValue4
  t5 := Tryd.underlying5
  a5 := Tryd.isAgg5
  z5 := Tryd.sizeOf5
  v5 := Tryd.zeroValue5
  t9 := Tryd.underlying9
  a9 := Tryd.isAgg9
  z9 := Tryd.sizeOf9
  v9 := Tryd.zeroValue9
  t20 := Tryd.underlying20
  a20 := Tryd.isAgg20
  z20 := Tryd.sizeOf20
  v20 := Tryd.zeroValue20
  t37 := Tryd.underlying31
  a37 := Tryd.isAgg31
  z37 := Tryd.sizeOf31
  v37 := Tryd.zeroValue31
  t46 := Tryd.underlying89
  a46 := Tryd.isAgg89
  z46 := Tryd.sizeOf89
  v46 := Tryd.zeroValue89
  t51 := Tryd.underlying105
  a51 := Tryd.isAgg105
  z51 := Tryd.sizeOf105
  v51 := Tryd.zeroValue105
  t53 := Tryd.underlying90
  a53 := Tryd.isAgg90
  z53 := Tryd.sizeOf90
  v53 := Tryd.zeroValue90
  t171 := Tryd.underlying97
  a171 := Tryd.isAgg97
  z171 := Tryd.sizeOf97
  v171 := Tryd.zeroValue97
  t173 := Tryd.underlying100
  a173 := Tryd.isAgg100
  z173 := Tryd.sizeOf100
  v173 := Tryd.zeroValue100
  t212 := Tryd.underlying104
  a212 := Tryd.isAgg104
  z212 := Tryd.sizeOf104
  v212 := Tryd.zeroValue104
  t213 := Tryd.underlying106
  a213 := Tryd.isAgg106
  z213 := Tryd.sizeOf106
  t232 := Tryd.underlying122
  a232 := Tryd.isAgg122
  z232 := Tryd.sizeOf122
  v232 := Tryd.zeroValue122
  t233 := Tryd.underlying123
  a233 := Tryd.isAgg123
  z233 := Tryd.sizeOf123
  v233 := Tryd.zeroValue123
  g17 := by kernel_rfl
  g18 := by kernel_rfl
  g19 := by kernel_rfl
  i0 := by kernel_rfl
  i2 := by kernel_rfl
  i3 := by kernel_rfl
  i4 := by kernel_rfl
  i5 := by kernel_rfl
  i9 := by kernel_rfl
  i20 := by kernel_rfl
  i37 := by kernel_rfl
  i46 := by kernel_rfl
  i51 := by kernel_rfl
  i53 := by kernel_rfl
  i171 := by kernel_rfl
  i173 := by kernel_rfl
  i212 := by kernel_rfl
  i232 := by kernel_rfl
  i233 := by kernel_rfl
  m17 := by kernel_rfl
  m18 := by kernel_rfl
  m19 := by kernel_rfl }
open Go.RowKit Go.Sort Go.Lib in
/-- strconv.AppendInt: "AppendInt appends the string form of the integer i, as generated by FormatInt, to dst and returns the extended buffer.": AT BASE 10: WHAT COMES BACK OWNS dst's CELLS AND, BEHIND THEM, i's DECIMAL NUMERAL ('Lib.itoa i': at most 20 bytes), for every int64. Below the call's own blocks nothing has turned. (LAID: no walk: one application.) -/
theorem Tryd.strconv_AppendInt_10 (B n : Nat) (i : Int) (h0 : -9223372036854775808 ≤ i) (h1 : i ≤ 9223372036854775807) (sv : Value) (xs : List Value) (w : World) (hown : w.ownsRow B 5 1 sv n xs) (hBw : B ≤ w.heap.size) (hlim : n + 21 ≤ 140737488355328) (htab : Lib.TabBelow Tryd.prog B w "internal/strconv.uint64pow10" .u64 Lib.pow10Tab) :
    Calls Tryd.prog 48 #[sv, .int .i64 i, .int .i64 10] w fun e w' => ∃ v', e = .returned v' ∧ w'.ownsRow B 5 1 v' (n + (Lib.itoa i).length) (xs ++ Lib.byteCells (Lib.itoa i)) ∧ Below B w w' ∧ Lib.OthersKept 5 none w w' := Any.strconv_AppendInt_10 Tryd.laysM176 B n i h0 h1 sv xs w hown hBw hlim htab
end Go.Proofs

/-
  The program's text of a number: strconv's contract. Condition: the library's table of powers of ten reads as laid.
-/
set_option linter.unusedVariables false
set_option linter.unusedSimpArgs false
set_option maxRecDepth 100000
namespace Go.Proofs.YtghbnehocggnnaaDoor
open Go.RowKit

/-- the table of powers of ten, in every world that keeps what lies below B -/
def Tab (B : Nat) (w : World) : Prop := Lib.TabBelow Tryd.prog B w "internal/strconv.uint64pow10" .u64 Lib.pow10Tab
theorem Tab.on {B : Nat} {w w' : World} (h : Tab B w) (hb : Below B w w') : Tab B w' := fun w2 h2 => h w2 (hb.trans h2)
theorem Tab.mono {B C : Nat} {w : World} (h : Tab B w) (hc : B ≤ C) : Tab C w := fun w2 h2 => h w2 (h2.mono hc)
theorem Tab.of {w : World} (h : Lib.TabIs Tryd.prog w "internal/strconv.uint64pow10" .u64 Lib.pow10Tab) : Tab w.heap.size w := Lib.tabBelow_of_tabIs h
theorem iFormatNumber_calls (n : Int) (w : World) (hn : I64 n) (B : Nat) (ht : Tab B w) (hB : B ≤ w.heap.size) :
    Calls Tryd.prog 23 #[.int .i64 n] w (Ret (.string ⟨(Lib.itoa n).toArray⟩) w) := by
  go_enter Tryd.func23, Tryd.ntmps23
  go_wp2_with (go_at_call 49; refine (Tryd.strconv_Itoa n hn.1 hn.2 _ (ht _ (by (repeat (first | with_reducible assumption | with_reducible exact Below.refl _ _ | with_reducible refine Below.drew ?_ | with_reducible refine belowDrewN ?_ _ | ((with_reducible refine Below.setCell ?_ ?_ _); rotate_left; focus (first | omega | (simp; done) | (simp; omega))) | ((with_reducible refine Below.alloc ?_ ?_ _); rotate_left; focus (first | omega | (simp; done) | (simp; omega)))))))).mono ?_; rintro e w1 ⟨rfl, k, os, rfl⟩)
  go_ret
  exact ⟨rfl, Lib.below_grow _ _ (Nat.le_refl _) k os⟩
end Go.Proofs.YtghbnehocggnnaaDoor

/-
  Walks: the reference's text of a number. No condition.
-/
set_option linter.unusedVariables false
set_option linter.unusedSimpArgs false
set_option maxRecDepth 100000
namespace Go.Proofs.YtghbnehocggnnaaDoor
open Go.RowKit

theorem oneByte (w : World) (c : Int) (b : UInt8) (hc : c = (b.toNat : Int)) : (convert 31 9 (.slice (some ⟨w.heap.size, 0, none⟩) 1 1)).run Tryd.prog (w.alloc (.cells #[.int .u8 c] 5)) = .ok (.string ⟨#[b]⟩) (w.alloc (.cells #[.int .u8 c] 5)) := by
  have h := run_convert_bytes_back (P := Tryd.prog) (w.alloc (.cells #[.int .u8 c] 5)) 31 9 5 ⟨w.heap.size, 0, none⟩ 1 [b] Tryd.underlying31 Tryd.underlying5 Tryd.underlying9 (fun j hj => by
    have : j = 0 := by simp at hj; omega
    subst this
    simp [Addr.add, go_sem, hc])
  exact h
theorem byteAdd (a : UInt8) (l : List UInt8) (b : ByteArray) (h : b.data.toList = l) : (⟨#[a]⟩ ++ b : ByteArray) = ⟨(a :: l).toArray⟩ := by
  apply ByteArray.ext
  rw [ByteArray.data_append]
  apply Array.ext'
  simp [h]
def dgt (u : Nat) : UInt8 := UInt8.ofNat (48 + u % 10)
theorem digit_toNat (u : Nat) : ((dgt u).toNat : Int) = ((48 + u % 10 : Nat) : Int) := by
  have : (48 + u % 10) % 256 = 48 + u % 10 := Nat.mod_eq_of_lt (by omega)
  unfold dgt; simp [UInt8.toNat_ofNat, this]
set_option maxHeartbeats 1000000 in
theorem sFormatNumber_calls (n : Int) (w : World) (hn : I64 n) :
    Calls Tryd.prog 19 #[.int .i64 n] w (Ret (.string ⟨(Lib.itoa n).toArray⟩) w) := by
  unfold I64 at hn
  by_cases h0 : n = 0
  · subst h0
    have hi := itoa_zero
    have HI := Lib.hid hi; clear hi
    go_enter Tryd.func19, Tryd.ntmps19
    go_wp2_with fail
    go_ret
    exact ⟨by rw [HI.out]; rfl, by (repeat (first | with_reducible assumption | with_reducible exact Below.refl _ _ | with_reducible refine Below.drew ?_ | with_reducible refine belowDrewN ?_ _ | ((with_reducible refine Below.setCell ?_ ?_ _); rotate_left; focus (first | omega | (simp; done) | (simp; omega))) | ((with_reducible refine Below.alloc ?_ ?_ _); rotate_left; focus (first | omega | (simp; done) | (simp; omega)))))⟩
  · go_enter Tryd.func19, Tryd.ntmps19
    have hb0 : (n == 0) = false := by simp [h0]
    go_wp2_with fail
    go_loopw [3, 4, 5] (fun o v d wr => ∃ (x : Int) (out : ByteArray), o = .string out ∧ v = .int .i64 x ∧ I64 x ∧ numRest x.natAbs ++ out.data.toList = numRest n.natAbs ∧ Below w.heap.size w wr) (fun _ v _ _ => (intOf v).natAbs)
    case atStart => exact ⟨n, ⟨#[]⟩, rfl, rfl, hn, by simp, by (repeat (first | with_reducible assumption | with_reducible exact Below.refl _ _ | with_reducible refine Below.drew ?_ | with_reducible refine belowDrewN ?_ _ | ((with_reducible refine Below.setCell ?_ ?_ _); rotate_left; focus (first | omega | (simp; done) | (simp; omega))) | ((with_reducible refine Below.alloc ?_ ?_ _); rotate_left; focus (first | omega | (simp; done) | (simp; omega)))))⟩
    case round =>
      obtain ⟨x, out, rfl, rfl, hx, hr, hb⟩ := hrel
      by_cases hx0 : x = 0
      · subst hx0
        have ho : out.data.toList = numRest n.natAbs := by simpa [numRest_zero] using hr
        have hl := Lib.itoa_length_le n hn.1 hn.2
        have hos : out.data.toList.length = out.size := rfl
        clear hr
        by_cases hneg : n < 0
        · have hi := itoa_neg' hneg
          rw [hi, ← ho] at hl
          simp only [List.length_cons] at hl
          have hns : ¬ (9223372036854775807 < 1 + out.size) := by omega
          have hadd := byteAdd 45 _ out ho
          have HO := Lib.hid ho; clear ho; have HI := Lib.hid hi; clear hi; have HL := Lib.hid hl; clear hl; have HADD := Lib.hid hadd; clear hadd
          go_wp2_with fail
          go_ret
          exact ⟨by rw [HI.out, ← HADD.out]; rfl, hb⟩
        · have hi := itoa_pos h0 hneg
          have HO := Lib.hid ho; clear ho; have HI := Lib.hid hi; clear hi; have HL := Lib.hid hl; clear hl
          go_wp2_with fail
          go_ret
          exact ⟨by rw [HI.out, ← HO.out]; rfl, hb⟩
      · have hxb : (x == 0) = false := by simp [hx0]
        have hm := Int.natAbs_tmod x 10
        have hd := Int.natAbs_tdiv x 10
        have hst : numRest x.natAbs = numRest (x.natAbs / 10) ++ [dgt x.natAbs] := numRest_step (u := x.natAbs) (by omega)
        have hz := hb.size
        have hdt := digit_toNat x.natAbs
        have hlo : out.size ≤ 25 := by
          have h1 := congrArg List.length hr
          have h2 := Lib.itoa_length_le n hn.1 hn.2
          have h3 : (numRest n.natAbs).length ≤ (Lib.itoa n).length := by
            by_cases hneg : n < 0
            · rw [itoa_neg' hneg]; simp
            · rw [itoa_pos h0 hneg]; exact Nat.le_refl _
          have hos : out.data.toList.length = out.size := rfl
          simp only [List.length_append] at h1
          omega
        have hns : ¬ (9223372036854775807 < 1 + out.size) := by omega
        have hadd := byteAdd (dgt x.natAbs) _ out rfl
        have hm2 : (x.tmod 10).natAbs = x.natAbs % 10 := hm
        have hd2 : (x.tdiv 10).natAbs = x.natAbs / 10 := hd
        have hfin : numRest (x.tdiv 10).natAbs ++ (⟨#[dgt x.natAbs]⟩ ++ out : ByteArray).data.toList = numRest n.natAbs := by
          rw [hd2, hadd, ← hr, hst]; simp
        have hltm : (x.tdiv 10).natAbs < x.natAbs := by omega
        have hI : I64 (x.tdiv 10) := by unfold I64 at hx ⊢; omega
        unfold I64 at hx
        by_cases hneg : x.tmod 10 < 0
        · have hcv := oneByte wr (wrap64 (48 + wrap64 (-x.tmod 10)) % 256) (dgt x.natAbs) (by rw [hdt]; unfold wrap64; omega)
          have HR := Lib.hid hr; clear hr; have HM := Lib.hid hm; clear hm; have HD := Lib.hid hd; clear hd; have HST := Lib.hid hst; clear hst; have HDT := Lib.hid hdt; clear hdt; have HM2 := Lib.hid hm2; clear hm2; have HD2 := Lib.hid hd2; clear hd2; have HADD := Lib.hid hadd; clear hadd; have HLO := Lib.hid hlo; clear hlo; have HFIN := Lib.hid hfin; clear hfin; have HI := Lib.hid hI; clear hI; have HLTM := Lib.hid hltm; clear hltm
          go_wp2_with fail
          go_roundw
          case rel => exact ⟨x.tdiv 10, _, rfl, by go_num, HI.out, HFIN.out, by (repeat (first | with_reducible assumption | with_reducible exact Below.refl _ _ | with_reducible refine Below.drew ?_ | with_reducible refine belowDrewN ?_ _ | ((with_reducible refine Below.setCell ?_ ?_ _); rotate_left; focus (first | omega | (simp; done) | (simp; omega))) | ((with_reducible refine Below.alloc ?_ ?_ _); rotate_left; focus (first | omega | (simp; done) | (simp; omega))) | ((with_reducible refine Below.trans ?_ (Below.mono hb ?_)); rotate_left; focus (first | omega | (simp; done) | (simp; omega)))))⟩
          case measure => exact HLTM.out
        · have hcv := oneByte wr (wrap64 (48 + x.tmod 10) % 256) (dgt x.natAbs) (by rw [hdt]; unfold wrap64; omega)
          have HR := Lib.hid hr; clear hr; have HM := Lib.hid hm; clear hm; have HD := Lib.hid hd; clear hd; have HST := Lib.hid hst; clear hst; have HDT := Lib.hid hdt; clear hdt; have HM2 := Lib.hid hm2; clear hm2; have HD2 := Lib.hid hd2; clear hd2; have HADD := Lib.hid hadd; clear hadd; have HLO := Lib.hid hlo; clear hlo; have HFIN := Lib.hid hfin; clear hfin; have HI := Lib.hid hI; clear hI; have HLTM := Lib.hid hltm; clear hltm
          go_wp2_with fail
          go_roundw
          case rel => exact ⟨x.tdiv 10, _, rfl, by go_num, HI.out, HFIN.out, by (repeat (first | with_reducible assumption | with_reducible exact Below.refl _ _ | with_reducible refine Below.drew ?_ | with_reducible refine belowDrewN ?_ _ | ((with_reducible refine Below.setCell ?_ ?_ _); rotate_left; focus (first | omega | (simp; done) | (simp; omega))) | ((with_reducible refine Below.alloc ?_ ?_ _); rotate_left; focus (first | omega | (simp; done) | (simp; omega))) | ((with_reducible refine Below.trans ?_ (Below.mono hb ?_)); rotate_left; focus (first | omega | (simp; done) | (simp; omega)))))⟩
          case measure => exact HLTM.out
end Go.Proofs.YtghbnehocggnnaaDoor

/-
  Walks: what the law marks and finds marked: numbers, texts. No condition.
-/
set_option linter.unusedVariables false
set_option linter.unusedSimpArgs false
set_option maxRecDepth 100000
namespace Go.Proofs.YtghbnehocggnnaaDoor
open Go.RowKit

def cnt (k : Int) (n : Nat) : List Int := (List.range n).map fun (i : Nat) => k + (i : Int)
theorem cnt_length (k : Int) (n : Nat) : (cnt k n).length = n := by simp [cnt]
theorem cnt_get (k : Int) (n i : Nat) (h : i < n) : (cnt k n)[i]? = some (k + i) := by simp [cnt, h]
theorem cnt_set (k : Int) (l : List Int) (i : Nat) (h : i < l.length) : (cnt k i ++ l.drop i).set i (k + i) = cnt k (i + 1) ++ l.drop (i + 1) := by
  rw [List.set_append, cnt_length, if_neg (by omega), Nat.sub_self, ← List.getElem_cons_drop h, List.set_cons_zero]
  simp [cnt, List.range_succ]

/-- What marking n numbers leaves. -/
def MarkedI (a : Option Addr) (cap n : Nat) (k : Int) (lo : Nat) (w : World) (e : Ending) (w' : World) : Prop :=
  e = .returned (.int .i64 (k + n)) ∧ (M.sl a cap 1 3 (intM (cnt k n))).Mine w' lo ∧ Only (addrBlocks a) w w'

def strM (l : List ByteArray) : List M := l.map fun n => .c (.string n)
theorem strM_length (l : List ByteArray) : (strM l).length = l.length := by simp [strM]
theorem strM_append (l r : List ByteArray) : strM (l ++ r) = strM l ++ strM r := by simp [strM]
theorem strM_blocks (l : List ByteArray) : M.blocksL (strM l) = [] := by
  induction l with
  | nil => rfl
  | cons x r ih => simp only [strM, List.map_cons, M.blocksL, M.blocks, List.nil_append]; exact ih
theorem strM_cells (l : List ByteArray) : M.cellsL (strM l) = l.map Value.string := by
  induction l with
  | nil => rfl
  | cons x r ih => simp only [strM, List.map_cons, M.cellsL, M.cells, List.singleton_append]; exact congrArg _ ih
theorem Strs.elem {w : World} {a : Option Addr} {cap : Nat} {e : TypeId} {l : List ByteArray} (h : (M.sl a cap 1 e (strM l)).In w) (k : Nat) (hk : k < l.length) :
    ∃ b off x, a = some ⟨b, off, none⟩ ∧ l[k]? = some x ∧ w.cell? ⟨b, off + k, none⟩ = some (.string x) := by
  have hk' : k < (strM l).length := by rw [strM_length]; exact hk
  obtain ⟨b, off, ha, hel⟩ := h.elem (by omega)
  refine ⟨b, off, l[k], ha, List.getElem?_eq_getElem hk, ?_⟩
  have := hel k hk' 0 (.string l[k]) (by simp [strM, M.cells])
  simpa using this
theorem Strs.len {w : World} {a : Option Addr} {cap : Nat} {e : TypeId} {l : List ByteArray} (h : (M.sl a cap 1 e (strM l)).In w) : l.length ≤ cap ∧ cap ≤ 9223372036854775807 := by
  have := h.len
  rwa [strM_length] at this
theorem Strs.set {w : World} {lo g cap : Nat} {e : TypeId} {l : List ByteArray} (h : (M.sl (some ⟨g, 0, none⟩) cap 1 e (strM l)).Mine w lo) (k : Nat) (hk : k < l.length) (x : ByteArray) :
    (M.sl (some ⟨g, 0, none⟩) cap 1 e (strM (l.set k x))).Mine (w.setCell ⟨g, k, none⟩ (.string x)) lo := by
  have := h.setElem k (by rw [strM_length]; exact hk) (.c (.string x)) rfl (M.Mine.c rfl) (by simp [M.blocks])
  simp only [M.cells, setCells, Nat.mul_one] at this
  rwa [show strM (l.set k x) = (strM l).set k (.c (.string x)) by simp [strM, List.map_set]]
def eqLS (l r : List ByteArray) : Bool := decide (l = r)
theorem eqLS_iff (l r : List ByteArray) : eqLS l r = true ↔ l = r := by simp [eqLS]

def scnt (k : Int) (n : Nat) : List ByteArray := (List.range n).map fun (i : Nat) => mtx (k + (i : Int))
theorem scnt_length (k : Int) (n : Nat) : (scnt k n).length = n := by simp [scnt]
theorem scnt_get (k : Int) (n i : Nat) (h : i < n) : (scnt k n)[i]? = some (mtx (k + i)) := by simp [scnt, h]
theorem scnt_set (k : Int) (l : List ByteArray) (i : Nat) (h : i < l.length) : (scnt k i ++ l.drop i).set i (mtx (k + i)) = scnt k (i + 1) ++ l.drop (i + 1) := by
  rw [List.set_append, scnt_length, if_neg (by omega), Nat.sub_self, ← List.getElem_cons_drop h, List.set_cons_zero]
  simp [scnt, List.range_succ]
def MarkedS (a : Option Addr) (cap n : Nat) (k : Int) (lo : Nat) (w : World) (e : Ending) (w' : World) : Prop :=
  e = .returned (.int .i64 (k + n)) ∧ (M.sl a cap 1 9 (strM (scnt k n))).Mine w' lo ∧ Only (addrBlocks a) w w'

end Go.Proofs.YtghbnehocggnnaaDoor

/-
  Lists of texts that a call builds. No condition.
-/
set_option linter.unusedVariables false
set_option linter.unusedSimpArgs false
set_option maxRecDepth 100000
namespace Go.Proofs.YtghbnehocggnnaaDoor
open Go.RowKit

theorem infoS : (Tryd.prog.info? 9).map (fun i => (i.zero, i.size, i.bytes)) = some (some (.string ⟨#[]⟩), 1, 16) := by kernel_rfl
theorem strM_snoc (l : List ByteArray) (n : ByteArray) : strM l ++ [.c (.string n)] = strM (l ++ [n]) := by simp [strM]
theorem Strs.nil (w : World) (lo : Nat) : (M.sl none 0 1 9 (strM [])).Mine w lo := M.Mine.nil _ _ _ _ (by decide)
/-- the empty literal '[]string{}' -/
theorem Strs.lit (w : World) (lo : Nat) (h : lo ≤ w.heap.size) : (M.sl (some ⟨w.heap.size, 0, none⟩) 0 1 9 (strM [])).Mine (w.alloc (.cells #[] 9)) lo :=
  M.Mine.new rfl h rfl (by decide) (by simp [strM]) (by simp [maxLen]) ⟨trivial, by simp [strM, M.blocksL]⟩
/-- 'out = append(out, s)' -/
theorem wpStrs_push {P : Program} {wr w1 : World} {ops : Array Oper} {rest : List Oper} {o : Oper} {act : Act} {Q : Exit → Act → World → Prop} (hgd : o.guard = none) (s x : Operand) (t : TypeId)
    (ho : o.op = .call { callee := .builtin .append, args := #[s, x], argTypes := #[t, t] })
    (e : TypeId) (z : Value) (ht : P.underlying t = some (.slice e)) (hinfo : (P.info? e).map (fun i => (i.zero, i.size, i.bytes)) = some (some z, 1, 16)) (hzs : z.cells.size = 1)
    (lo : Nat) (a : Option Addr) (cap : Nat) (xs : List ByteArray) (hs : act.eval s = .slice a xs.length cap) (hrow : (M.sl a cap 1 e (strM xs)).Mine wr lo) (hlo : lo ≤ wr.heap.size) (hb : Below wr.heap.size wr w1)
    (n : ByteArray) (hx : act.eval x = .slice (some ⟨w1.heap.size, 0, none⟩) 1 1) (hB : xs.length ≤ 1000000000)
    (k : ∀ a' cap' w', (M.sl a' cap' 1 e (strM (xs ++ [n]))).Mine w' lo → Below lo w1 w' → w1.heap.size ≤ w'.heap.size → (∀ b, b < w1.heap.size → b ∉ addrBlocks a → w'.heap[b]? = w1.heap[b]?) →
      wpList P ops Q rest (act.put o.dst (.slice a' (xs ++ [n]).length cap')) w') : wpList P ops Q (o :: rest) act (w1.alloc (.cells #[.string n] e)) := by
  refine wpList_push hgd s x t ho e z 1 16 ht hinfo hzs (by decide) lo a cap (strM xs) (by rw [strM_length]; exact hs) hrow hlo hb #[.string n] (.c (.string n)) rfl rfl wr.heap.size (M.Mine.c rfl) (Nat.le_refl _) hx (by rw [strM_length]; unfold maxLen; omega) (by rw [strM_length]; omega) ?_
  intro a' cap' w' h1 h2 h3 h4
  rw [strM_snoc] at h1
  rw [strM_length]
  have := k a' cap' w' h1 h2 h3 h4
  simpa using this
end Go.Proofs.YtghbnehocggnnaaDoor

/-
  Walks: the reference's text of a datum. No condition.
-/
set_option linter.unusedVariables false
set_option linter.unusedSimpArgs false
set_option maxRecDepth 100000
namespace Go.Proofs.YtghbnehocggnnaaDoor
open Go.RowKit

/-- texts as strings -/
def tx (l : List (List UInt8)) : List ByteArray := l.map fun x => ⟨x.toArray⟩
theorem tx_length (l : List (List UInt8)) : (tx l).length = l.length := by simp [tx]
theorem tx_snoc (l : List (List UInt8)) (x : List UInt8) : tx l ++ [⟨x.toArray⟩] = tx (l ++ [x]) := by simp [tx]
theorem tx_get {l : List (List UInt8)} {k : Nat} {b : ByteArray} (h : (tx l)[k]? = some b) : ∃ x, l[k]? = some x ∧ b = ⟨x.toArray⟩ := by
  simp only [tx, List.getElem?_map, Option.map_eq_some_iff] at h
  obtain ⟨x, hx, rfl⟩ := h
  exact ⟨x, hx, rfl⟩
theorem baOf {b : ByteArray} {l : List UInt8} (h : b.data.toList = l) : b = ⟨l.toArray⟩ := by subst h; rfl
theorem baApp (a b : List UInt8) : (⟨a.toArray⟩ ++ ⟨b.toArray⟩ : ByteArray) = ⟨(a ++ b).toArray⟩ := ByteArray.mk_append_mk a b
theorem sum_take_le (f : List UInt8 → Nat) : ∀ (l : List (List UInt8)) (k : Nat), ((l.take k).map f).sum ≤ (l.map f).sum
  | [], k => by simp
  | a :: r, 0 => by simp
  | a :: r, k + 1 => by have := sum_take_le f r k; rw [List.take_succ_cons, List.map_cons, List.map_cons, List.sum_cons, List.sum_cons]; omega
theorem join_take_le (sep : List UInt8) (l : List (List UInt8)) (k : Nat) : (joinB sep (l.take k)).length ≤ (l.map fun x => x.length + sep.length).sum :=
  Nat.le_trans (joinB_length sep _) (sum_take_le _ _ _)
theorem elem_le : ∀ {l : List (List UInt8)} {k : Nat} {x : List UInt8} (f : List UInt8 → Nat), l[k]? = some x → f x ≤ (l.map f).sum
  | [], k, x, f, h => by simp at h
  | a :: r, 0, x, f, h => by simp at h; subst h; simp
  | a :: r, k + 1, x, f, h => by have := elem_le f (l := r) (k := k) (by simpa using h); rw [List.map_cons, List.sum_cons]; omega
set_option maxHeartbeats 1000000 in
theorem l1Join_calls (a : Option Addr) (cap : Nat) (l : List (List UInt8)) (sep : List UInt8) (w : World) (h : (M.sl a cap 1 9 (strM (tx l))).In w) (hB : (l.map fun x => x.length + sep.length).sum ≤ 1000000000000) (hS : sep.length ≤ 1000) :
    Calls Tryd.prog 43 #[.slice a (tx l).length cap, .string ⟨sep.toArray⟩] w (RetEq (.string ⟨(joinB sep l).toArray⟩) w) := by
  have hl := Strs.len h
  have hn := tx_length l
  have H := Lib.hid h; clear h
  go_enter Tryd.func43, Tryd.ntmps43
  go_wp2_with fail
  go_loopw [5, 6, 7, 10] (fun o u v i wr => ∃ (k : Nat), k ≤ l.length ∧ i = .int .i64 k ∧ o = .string ⟨(joinB sep (l.take k)).toArray⟩ ∧ wr = w) (fun _ _ _ i _ => l.length - (intOf i).toNat)
  case atStart => exact ⟨0, Nat.zero_le _, rfl, by simp [joinB], rfl⟩
  case round =>
    obtain ⟨k, hk, rfl, rfl, rfl⟩ := hrel
    by_cases hlt : k < l.length
    · obtain ⟨b, off, x0, rfl, hx, hc⟩ := Strs.elem H.out k (by omega)
      obtain ⟨x, hx', rfl⟩ := tx_get hx
      have h1 := join_take_le sep l k
      have h2 : x.length + sep.length ≤ _ := elem_le (fun x => x.length + sep.length) hx'
      have hsn := joinB_snoc sep (l.take k) x
      rw [← take_snoc hx'] at hsn
      clear hx
      generalize hcur : joinB sep (l.take k) = cur at *
      generalize hnxt : joinB sep (l.take (k + 1)) = nxt at *
      by_cases hk0 : k = 0
      · subst hk0
        (try rw [Nat.add_zero] at hc)
        have hc0 : cur = [] := by rw [← hcur]; simp [joinB]
        subst hc0
        have hfin : nxt = [] ++ x := by simpa using hsn
        have hns : ¬ (9223372036854775807 < x.length) := by omega
        have hap := baApp [] x
        have HSN := Lib.hid hsn; clear hsn; have HCUR := Lib.hid hcur; clear hcur; have HNXT := Lib.hid hnxt; clear hnxt; have HFIN := Lib.hid hfin; clear hfin; have H1 := Lib.hid h1; clear h1; have H2 := Lib.hid h2; clear h2; have HX' := Lib.hid hx'; clear hx'; have HAP := Lib.hid hap; clear hap
        go_wp2_with fail

        go_roundw
        case rel => exact ⟨0 + 1, by omega, by go_num, by rw [HNXT.out, HFIN.out, ← HAP.out], by first | rfl | trivial⟩
        case measure => simp [intOf]; omega
      · have hne : (l.take k).isEmpty = false := by
          cases l with
          | nil => simp at hlt
          | cons y r => cases k with
            | zero => exact absurd rfl hk0
            | succ k => simp
        have hfin : nxt = (cur ++ sep) ++ x := by rw [hsn, hne]; simp
        have hpos : 0 < k := by omega
        have hns1 : ¬ (9223372036854775807 < cur.length + sep.length) := by omega
        have hns2 : ¬ (9223372036854775807 < cur.length + sep.length + x.length) := by omega
        have hap1 := baApp cur sep
        have hap2 := baApp (cur ++ sep) x
        have HSN := Lib.hid hsn; clear hsn; have HCUR := Lib.hid hcur; clear hcur; have HNXT := Lib.hid hnxt; clear hnxt; have HFIN := Lib.hid hfin; clear hfin; have H1 := Lib.hid h1; clear h1; have H2 := Lib.hid h2; clear h2; have HX' := Lib.hid hx'; clear hx'; have HNE := Lib.hid hne; clear hne; have HAP1 := Lib.hid hap1; clear hap1; have HAP2 := Lib.hid hap2; clear hap2
        go_wp2_with fail
        go_roundw
        case rel => exact ⟨k + 1, by omega, by go_num, by rw [HNXT.out, HFIN.out, ← HAP2.out, ← HAP1.out], by first | rfl | trivial⟩
        case measure => simp [intOf]; omega
    · have hk2 : k = l.length := by omega
      subst hk2
      rw [List.take_length]
      go_wp2_with fail
      go_ret
      exact ⟨rfl, rfl⟩
end Go.Proofs.YtghbnehocggnnaaDoor

/-
  Walks: the reference's text of a datum, continued. No condition.
-/
set_option linter.unusedVariables false
set_option linter.unusedSimpArgs false
set_option maxRecDepth 100000
namespace Go.Proofs.YtghbnehocggnnaaDoor
open Go.RowKit

theorem Dat.wt_le : ∀ {ds : List Dat} {k : Nat} {d : Dat}, ds[k]? = some d → d.wt ≤ Dat.wtX ds
  | [], k, d, h => by simp at h
  | x :: r, 0, d, h => by simp at h; subst h; simp [Dat.wtX]
  | x :: r, k + 1, d, h => by have := Dat.wt_le (ds := r) (k := k) (by simpa using h); simp only [Dat.wtX]; omega
theorem baId (s : ByteArray) : (⟨s.data.toList.toArray⟩ : ByteArray) = s := by cases s; simp
theorem baWrap (a b : UInt8) (l : List UInt8) : (⟨#[a]⟩ ++ ⟨l.toArray⟩ ++ ⟨#[b]⟩ : ByteArray) = ⟨(a :: (l ++ [b])).toArray⟩ := by
  apply ByteArray.ext; simp [ByteArray.data_append]
theorem baWrap' (a b : UInt8) (s : ByteArray) : (⟨#[a]⟩ ++ s ++ ⟨#[b]⟩ : ByteArray) = ⟨(a :: (s.data.toList ++ [b])).toArray⟩ := by
  rw [← baWrap, baId]
theorem ok_bool {n : Int} {s : ByteArray} {ds : List Dat} (h : (Dat.mk 3 n s ds).ok) : n = 0 ∨ n = 1 := by
  have h1 := (Dat.ok_mk.1 h).1
  rw [nodeB, if_neg (by decide), if_neg (by decide), if_neg (by decide), if_pos rfl] at h1
  simp only [inB, Bool.and_eq_true, decide_eq_true_eq] at h1
  omega
def FmtSs (ds : List Dat) : Prop := ∀ (k n : Int) (s : ByteArray) (a : Option Addr) (cap : Nat) (ms : List M) (w : World), (Dat.mk k n s ds).wf → (Dat.mk k n s ds).ok → s.size + (ds.length + Dat.wtX ds) ≤ 2000000 → Dat.IsL 40 ds ms → (M.sl a cap 4 40 ms).In w →
    Calls Tryd.prog 58 #[.agg #[.int .i64 k, .int .i64 n, .string s, .slice a ms.length cap]] w (Ret (.string ⟨(fmtD (.mk k n s ds)).toArray⟩) w)
set_option maxHeartbeats 1000000 in
theorem l1Format_calls : ∀ ds, FmtSs ds := by
  refine Dat.inductL fun ds ih => ?_
  intro k n s a cap ms w hwf hok hB hi hin
  have hl := hi.length
  have hcap := hin.len
  have hwd : I64 n ∧ Dat.wfL ds := ⟨hwf.2.1, hwf.2.2.2⟩
  have hsum := fmt_wt ds hwd.2
  have hitems := (Dat.ok_mk.1 hok).2
  have IH := Lib.hid ih; clear ih; have HIN := Lib.hid hin; clear hin; have HI := Lib.hid hi; clear hi; have HL := Lib.hid hl; clear hl; have HWF := Lib.hid hwf; clear hwf; have HWD := Lib.hid hwd; clear hwd; have HSUM := Lib.hid hsum; clear hsum; have HITEMS := Lib.hid hitems; clear hitems
  by_cases h1 : k = 1
  · subst h1
    have hf := fmtD_sym n s ds
    have HF := Lib.hid hf; clear hf; have HOK := Lib.hid hok; clear hok
    go_enter Tryd.func58, Tryd.ntmps58
    go_wp2_with fail
    go_ret
    exact ⟨by rw [HF.out]; first | rfl | (simp; done), by (repeat (first | with_reducible assumption | with_reducible exact Below.refl _ _ | with_reducible refine Below.drew ?_ | with_reducible refine belowDrewN ?_ _ | ((with_reducible refine Below.setCell ?_ ?_ _); rotate_left; focus (first | omega | (simp; done) | (simp; omega))) | ((with_reducible refine Below.alloc ?_ ?_ _); rotate_left; focus (first | omega | (simp; done) | (simp; omega)))))⟩
  by_cases h2 : k = 2
  · subst h2
    have hf := fmtD_num n s ds
    have HF := Lib.hid hf; clear hf; have HOK := Lib.hid hok; clear hok
    go_enter Tryd.func58, Tryd.ntmps58
    go_wp2_with fail
    refine (sFormatNumber_calls n _ HWD.out.1).mono ?_
    rintro e w1 ⟨rfl, hb1⟩
    go_wp2_with fail
    go_ret
    exact ⟨by rw [HF.out]; rfl, by (repeat (first | with_reducible assumption | with_reducible exact Below.refl _ _ | with_reducible refine Below.drew ?_ | with_reducible refine belowDrewN ?_ _ | ((with_reducible refine Below.setCell ?_ ?_ _); rotate_left; focus (first | omega | (simp; done) | (simp; omega))) | ((with_reducible refine Below.alloc ?_ ?_ _); rotate_left; focus (first | omega | (simp; done) | (simp; omega))) | ((with_reducible refine Below.trans ?_ (Below.mono hb1 ?_)); rotate_left; focus (first | omega | (simp; done) | (simp; omega)))))⟩
  by_cases h3 : k = 3
  · subst h3
    rcases ok_bool hok with rfl | rfl
    · have hf := fmtD_fa (show (0 : Int) ≠ 1 by decide) s ds
      have HF := Lib.hid hf; clear hf; have HOK := Lib.hid hok; clear hok
      go_enter Tryd.func58, Tryd.ntmps58
      go_wp2_with fail
      go_ret
      exact ⟨by rw [HF.out]; rfl, by (repeat (first | with_reducible assumption | with_reducible exact Below.refl _ _ | with_reducible refine Below.drew ?_ | with_reducible refine belowDrewN ?_ _ | ((with_reducible refine Below.setCell ?_ ?_ _); rotate_left; focus (first | omega | (simp; done) | (simp; omega))) | ((with_reducible refine Below.alloc ?_ ?_ _); rotate_left; focus (first | omega | (simp; done) | (simp; omega)))))⟩
    · have hf := fmtD_tr s ds
      have HF := Lib.hid hf; clear hf; have HOK := Lib.hid hok; clear hok
      go_enter Tryd.func58, Tryd.ntmps58
      go_wp2_with fail
      go_ret
      exact ⟨by rw [HF.out]; rfl, by (repeat (first | with_reducible assumption | with_reducible exact Below.refl _ _ | with_reducible refine Below.drew ?_ | with_reducible refine belowDrewN ?_ _ | ((with_reducible refine Below.setCell ?_ ?_ _); rotate_left; focus (first | omega | (simp; done) | (simp; omega))) | ((with_reducible refine Below.alloc ?_ ?_ _); rotate_left; focus (first | omega | (simp; done) | (simp; omega)))))⟩
  by_cases h4 : k = 4
  · subst h4
    have hf := fmtD_str n s ds
    have hwr := baWrap' 34 34 s
    have hns1 : ¬ (9223372036854775807 < 1 + s.size) := by omega
    have hns2 : ¬ (9223372036854775807 < 1 + s.size + 1) := by omega
    have HF := Lib.hid hf; clear hf; have HOK := Lib.hid hok; clear hok; have HWR := Lib.hid hwr; clear hwr
    go_enter Tryd.func58, Tryd.ntmps58
    go_wp2_with fail
    go_ret
    exact ⟨by rw [HF.out, ← HWR.out]; rfl, by (repeat (first | with_reducible assumption | with_reducible exact Below.refl _ _ | with_reducible refine Below.drew ?_ | with_reducible refine belowDrewN ?_ _ | ((with_reducible refine Below.setCell ?_ ?_ _); rotate_left; focus (first | omega | (simp; done) | (simp; omega))) | ((with_reducible refine Below.alloc ?_ ?_ _); rotate_left; focus (first | omega | (simp; done) | (simp; omega)))))⟩
  · have hf := fmtD_list h1 h2 h3 h4 n s ds
    have e1 : (k == 1) = false := by simp [h1]
    have e2 : (k == 2) = false := by simp [h2]
    have e3 : (k == 3) = false := by simp [h3]
    have e4 : (k == 4) = false := by simp [h4]
    have HF := Lib.hid hf; clear hf; have HOK := Lib.hid hok; clear hok
    clear h1 h2 h3 h4
    go_enter Tryd.func58, Tryd.ntmps58
    go_wp2_with fail
    go_loopw [3, 34] (fun t i wr => ∃ (j : Nat) (a' : Option Addr) (cap' : Nat), j ≤ ms.length ∧ i = .int .i64 j ∧ t = .slice a' (tx (fmtL (ds.take j))).length cap' ∧ (M.sl a' cap' 1 9 (strM (tx (fmtL (ds.take j))))).Mine wr w.heap.size ∧ Below w.heap.size w wr) (fun _ i _ => ms.length - (intOf i).toNat)
    case atStart => exact ⟨0, some ⟨w.heap.size + 1, 0, none⟩, 0, Nat.zero_le _, rfl, by simp [tx, fmtL], by rw [List.take_zero]; have h := Strs.lit (w.alloc (.cells #[.int .i64 k, .int .i64 n, .string s, .slice a ms.length cap] 40)) w.heap.size (by simp); simpa [tx, fmtL] using h, by (repeat (first | with_reducible assumption | with_reducible exact Below.refl _ _ | with_reducible refine Below.drew ?_ | with_reducible refine belowDrewN ?_ _ | ((with_reducible refine Below.setCell ?_ ?_ _); rotate_left; focus (first | omega | (simp; done) | (simp; omega))) | ((with_reducible refine Below.alloc ?_ ?_ _); rotate_left; focus (first | omega | (simp; done) | (simp; omega)))))⟩
    case round =>
      obtain ⟨j, a', cap', hj, rfl, rfl, hm', hb⟩ := hrel
      have hz := hb.size
      by_cases hlt : j < ms.length
      · obtain ⟨bb, off, k1, n1, s1, ds1, a1, cap1, ms1, rfl, hd, hi1, hin1, c0, c1, c2, c3⟩ := Dat.elem (HIN.out.below hb) HI.out j hlt
        have hmem := List.mem_of_getElem? hd
        have hwt1 := Dat.wt_le hd
        simp only [Dat.wt] at hwt1
        have hft := fmtL_take hd
        have hln := fmtL_length (ds.take j)
        have hlj : (ds.take j).length ≤ j := by simp; omega
        generalize hcur : fmtL (ds.take j) = cur at *
        have HD := Lib.hid hd; clear hd; have HI1 := Lib.hid hi1; clear hi1; have HIN1 := Lib.hid hin1; clear hin1; have HM' := Lib.hid hm'; clear hm'; have HMEM := Lib.hid hmem; clear hmem; have HFT := Lib.hid hft; clear hft; have HCUR := Lib.hid hcur; clear hcur
        go_wp2_with fail
        refine (IH.out k1 n1 s1 ds1 HMEM.out k1 n1 s1 a1 cap1 ms1 _ (Dat.wfL_get HWD.out.2 HD.out) (HITEMS.out _ HMEM.out) (by omega) HI1.out (HIN1.out.below (by (repeat (first | with_reducible assumption | with_reducible exact Below.refl _ _ | with_reducible refine Below.drew ?_ | with_reducible refine belowDrewN ?_ _ | ((with_reducible refine Below.setCell ?_ ?_ _); rotate_left; focus (first | omega | (simp; done) | (simp; omega))) | ((with_reducible refine Below.alloc ?_ ?_ _); rotate_left; focus (first | omega | (simp; done) | (simp; omega)))))))).mono ?_
        rintro e w1 ⟨rfl, hb1⟩
        have htx := tx_length cur
        have hsn := tx_snoc cur (fmtD (.mk k1 n1 s1 ds1))
        have HTX := Lib.hid htx; clear htx; have HSN := Lib.hid hsn; clear hsn; have HLN := Lib.hid hln; clear hln; have HLJ := Lib.hid hlj; clear hlj
        go_wp2_with (at_builtin; refine wpStrs_push (wr := wr) rfl _ _ 46 rfl 9 _ Tryd.underlying46 infoS rfl w.heap.size a' cap' (tx cur) rfl HM'.out hz (by (repeat (first | with_reducible assumption | with_reducible exact Below.refl _ _ | with_reducible refine Below.drew ?_ | with_reducible refine belowDrewN ?_ _ | ((with_reducible refine Below.setCell ?_ ?_ _); rotate_left; focus (first | omega | (simp; done) | (simp; omega))) | ((with_reducible refine Below.alloc ?_ ?_ _); rotate_left; focus (first | omega | (simp; done) | (simp; omega))) | ((with_reducible refine Below.trans ?_ (Below.mono hb1 ?_)); rotate_left; focus (first | omega | (simp; done) | (simp; omega)))))) ⟨(fmtD (.mk k1 n1 s1 ds1)).toArray⟩ (by simp [go_sem]) (by have := HTX.out; have := HLN.out; have := HLJ.out; have := HL.out; omega) ?_)
        intro a3 cap3 w3 hm3 hb3 hz3 hk3
        rw [HSN.out] at hm3
        have hlen : (tx cur).length + 1 = (tx (cur ++ [fmtD (.mk k1 n1 s1 ds1)])).length := by simp [tx]
        have HM3 := Lib.hid hm3; clear hm3; have HLEN := Lib.hid hlen; clear hlen
        go_wp2_with fail
        go_roundw
        case rel => exact ⟨j + 1, a3, cap3, by omega, by go_num, by rw [HFT.out, ← HLEN.out], by rw [HFT.out]; exact HM3.out, by (repeat (first | with_reducible assumption | with_reducible exact Below.refl _ _ | with_reducible refine Below.drew ?_ | with_reducible refine belowDrewN ?_ _ | ((with_reducible refine Below.setCell ?_ ?_ _); rotate_left; focus (first | omega | (simp; done) | (simp; omega))) | ((with_reducible refine Below.alloc ?_ ?_ _); rotate_left; focus (first | omega | (simp; done) | (simp; omega))) | ((with_reducible refine Below.trans ?_ (Below.mono hb1 ?_)); rotate_left; focus (first | omega | (simp; done) | (simp; omega))) | ((with_reducible refine Below.trans ?_ (Below.mono hb3 ?_)); rotate_left; focus (first | omega | (simp; done) | (simp; omega)))))⟩
        case measure => simp [intOf]; omega
      · have hk2 : j = ms.length := by omega
        subst hk2
        rw [HL.out, List.take_length] at hm'
        rw [HL.out, List.take_length]
        have hjl := joinB_length [32] (fmtL ds)
        simp only [List.length_singleton] at hjl
        have hs2 := HSUM.out
        have hns1 : ¬ (9223372036854775807 < 1 + (joinB [32] (fmtL ds)).length) := by omega
        have hns2 : ¬ (9223372036854775807 < 1 + (joinB [32] (fmtL ds)).length + 1) := by omega
        have hbd : ((fmtL ds).map fun x => x.length + [(32 : UInt8)].length).sum ≤ 1000000000000 := by simp only [List.length_singleton]; omega
        have hwr := baWrap 40 41 (joinB [32] (fmtL ds))
        have HM' := Lib.hid hm'; clear hm'; have HBD := Lib.hid hbd; clear hbd; have HWR := Lib.hid hwr; clear hwr; have HJL := Lib.hid hjl; clear hjl; have HS2 := Lib.hid hs2; clear hs2
        go_wp2_with fail
        refine (l1Join_calls a' cap' (fmtL ds) [32] _ (HM'.out.in_.below (by (repeat (first | with_reducible assumption | with_reducible exact Below.refl _ _ | with_reducible refine Below.drew ?_ | with_reducible refine belowDrewN ?_ _ | ((with_reducible refine Below.setCell ?_ ?_ _); rotate_left; focus (first | omega | (simp; done) | (simp; omega))) | ((with_reducible refine Below.alloc ?_ ?_ _); rotate_left; focus (first | omega | (simp; done) | (simp; omega))))))) HBD.out (by decide)).mono ?_
        rintro e w1 ⟨rfl, rfl⟩
        go_wp2_with fail
        go_ret
        exact ⟨by rw [HF.out, ← HWR.out]; rfl, by (repeat (first | with_reducible assumption | with_reducible exact Below.refl _ _ | with_reducible refine Below.drew ?_ | with_reducible refine belowDrewN ?_ _ | ((with_reducible refine Below.setCell ?_ ?_ _); rotate_left; focus (first | omega | (simp; done) | (simp; omega))) | ((with_reducible refine Below.alloc ?_ ?_ _); rotate_left; focus (first | omega | (simp; done) | (simp; omega)))))⟩
end Go.Proofs.YtghbnehocggnnaaDoor

/-
  The cells of one datum, of one piece of syntax, of one binding, in a block of their own. No condition.
-/
set_option linter.unusedVariables false
set_option linter.unusedSimpArgs false
namespace Go.Proofs.YtghbnehocggnnaaDoor
open Go.RowKit

/-- a datum's cells at block b -/
structure DBox (b : Nat) (k n : Int) (s : ByteArray) (v : Value) (w : World) : Prop where
  c0 : w.cell? ⟨b, 0, none⟩ = some (.int .i64 k)
  c1 : w.cell? ⟨b, 1, none⟩ = some (.int .i64 n)
  c2 : w.cell? ⟨b, 2, none⟩ = some (.string s)
  c3 : w.cell? ⟨b, 3, none⟩ = some v
  f0 : w.frozen? ⟨b, 0, none⟩ = false
  f1 : w.frozen? ⟨b, 1, none⟩ = false
  f2 : w.frozen? ⟨b, 2, none⟩ = false
  f3 : w.frozen? ⟨b, 3, none⟩ = false
theorem cellNew {w : World} {a : Addr} {v : Value} {o : Obj} (h : w.cell? a = some v) : (w.alloc o).cell? a = some v := by
  rw [World.cell?_of_block (heapNew w o a.block (World.block_lt_of_cell? w a h))]; exact h
theorem cellFar {w : World} {b o g i : Nat} {v u : Value} (h : b ≠ g) (hc : w.cell? ⟨b, o, none⟩ = some v) : (w.setCell ⟨g, i, none⟩ u).cell? ⟨b, o, none⟩ = some v := by
  rw [World.cell?_of_block (a := ⟨b, o, none⟩) (heapSet w ⟨g, i, none⟩ u b h)]; exact hc
theorem far5 {w : World} {b o g i0 i1 i2 i3 i4 : Nat} {v u0 u1 u2 u3 u4 : Value} (h : b ≠ g) (hc : w.cell? ⟨b, o, none⟩ = some v) :
    (((((w.setCell ⟨g, i0, none⟩ u0).setCell ⟨g, i1, none⟩ u1).setCell ⟨g, i2, none⟩ u2).setCell ⟨g, i3, none⟩ u3).setCell ⟨g, i4, none⟩ u4).cell? ⟨b, o, none⟩ = some v :=
  cellFar h (cellFar h (cellFar h (cellFar h (cellFar h hc))))
theorem cellSet_ne {w : World} {b i j : Nat} (v : Value) (h : i ≠ j) : (w.setCell ⟨b, j, none⟩ v).cell? ⟨b, i, none⟩ = w.cell? ⟨b, i, none⟩ := by
  have : (⟨b, i, none⟩ : Addr) ≠ ⟨b, j, none⟩ := by simp [h]
  simp [go_sem, this, h]
theorem frozenSet {w : World} {a c : Addr} (v : Value) : (w.setCell a v).frozen? c = w.frozen? c := by
  simp [go_sem]
theorem DBox.lt {b : Nat} {k n : Int} {s : ByteArray} {v : Value} {w : World} (h : DBox b k n s v w) : b < w.heap.size := World.block_lt_of_cell? w _ h.c0
theorem DBox.of {b : Nat} {k n : Int} {s : ByteArray} {v : Value} {w w' : World} (h : DBox b k n s v w) (hk : w'.heap[b]? = w.heap[b]?) : DBox b k n s v w' :=
  ⟨(World.cell?_of_block hk).trans h.c0, (World.cell?_of_block hk).trans h.c1, (World.cell?_of_block hk).trans h.c2, (World.cell?_of_block hk).trans h.c3,
   (World.frozen?_of_block hk).trans h.f0, (World.frozen?_of_block hk).trans h.f1, (World.frozen?_of_block hk).trans h.f2, (World.frozen?_of_block hk).trans h.f3⟩
theorem DBox.only {b lo hi : Nat} {k n : Int} {s : ByteArray} {v : Value} {w w' : World} (h : DBox b k n s v w) (o : OnlyIn lo hi w w') (hb : b < lo ∨ hi ≤ b) : DBox b k n s v w' := h.of (o.block b h.lt hb)
theorem DBox.below {b B : Nat} {k n : Int} {s : ByteArray} {v : Value} {w w' : World} (h : DBox b k n s v w) (o : Below B w w') (hb : b < B) : DBox b k n s v w' := h.of (o.block b hb)
theorem DBox.far {b : Nat} {k n : Int} {s : ByteArray} {v : Value} {w : World} (h : DBox b k n s v w) {a : Addr} (u : Value) (hb : b ≠ a.block) : DBox b k n s v (w.setCell a u) := h.of (heapSet _ _ _ _ hb)
theorem DBox.new (k n : Int) (s : ByteArray) (v : Value) (w : World) : DBox w.heap.size k n s v (w.alloc (.cells #[.int .i64 k, .int .i64 n, .string s, v] 40)) := by
  constructor <;> simp [go_sem]
theorem DBox.set3 {b : Nat} {k n : Int} {s : ByteArray} {v : Value} {w : World} (h : DBox b k n s v w) (u : Value) : DBox b k n s u (w.setCell ⟨b, 3, none⟩ u) :=
  ⟨(cellSet_ne u (by decide)).trans h.c0, (cellSet_ne u (by decide)).trans h.c1, (cellSet_ne u (by decide)).trans h.c2, by rw [cell?_setCell_eq, h.c3]; rfl,
   (frozenSet u).trans h.f0, (frozenSet u).trans h.f1, (frozenSet u).trans h.f2, (frozenSet u).trans h.f3⟩
theorem DBox.set2 {b : Nat} {k n : Int} {s : ByteArray} {v : Value} {w : World} (h : DBox b k n s v w) (u : ByteArray) : DBox b k n u v (w.setCell ⟨b, 2, none⟩ (.string u)) :=
  ⟨(cellSet_ne _ (by decide)).trans h.c0, (cellSet_ne _ (by decide)).trans h.c1, by rw [cell?_setCell_eq, h.c2]; rfl, (cellSet_ne _ (by decide)).trans h.c3,
   (frozenSet _).trans h.f0, (frozenSet _).trans h.f1, (frozenSet _).trans h.f2, (frozenSet _).trans h.f3⟩

/-- a binding's cells at block b -/
structure BBox (b : Nat) (s : ByteArray) (x : Value) (k n : Int) (w : World) : Prop where
  c0 : w.cell? ⟨b, 0, none⟩ = some (.string s)
  c1 : w.cell? ⟨b, 1, none⟩ = some x
  c2 : w.cell? ⟨b, 2, none⟩ = some (.int .i64 k)
  c3 : w.cell? ⟨b, 3, none⟩ = some (.int .i64 n)
  f0 : w.frozen? ⟨b, 0, none⟩ = false
  f1 : w.frozen? ⟨b, 1, none⟩ = false
  f2 : w.frozen? ⟨b, 2, none⟩ = false
  f3 : w.frozen? ⟨b, 3, none⟩ = false
theorem BBox.lt {b : Nat} {k n : Int} {s : ByteArray} {x : Value} {w : World} (h : BBox b s x k n w) : b < w.heap.size := World.block_lt_of_cell? w _ h.c0
theorem BBox.of {b : Nat} {k n : Int} {s : ByteArray} {x : Value} {w w' : World} (h : BBox b s x k n w) (hk : w'.heap[b]? = w.heap[b]?) : BBox b s x k n w' :=
  ⟨(World.cell?_of_block hk).trans h.c0, (World.cell?_of_block hk).trans h.c1, (World.cell?_of_block hk).trans h.c2, (World.cell?_of_block hk).trans h.c3,
   (World.frozen?_of_block hk).trans h.f0, (World.frozen?_of_block hk).trans h.f1, (World.frozen?_of_block hk).trans h.f2, (World.frozen?_of_block hk).trans h.f3⟩
theorem BBox.only {b lo hi : Nat} {k n : Int} {s : ByteArray} {x : Value} {w w' : World} (h : BBox b s x k n w) (o : OnlyIn lo hi w w') (hb : b < lo ∨ hi ≤ b) : BBox b s x k n w' := h.of (o.block b h.lt hb)
theorem BBox.below {b B : Nat} {k n : Int} {s : ByteArray} {x : Value} {w w' : World} (h : BBox b s x k n w) (o : Below B w w') (hb : b < B) : BBox b s x k n w' := h.of (o.block b hb)
theorem BBox.far {b : Nat} {k n : Int} {s : ByteArray} {x : Value} {w : World} (h : BBox b s x k n w) {a : Addr} (u : Value) (hb : b ≠ a.block) : BBox b s x k n (w.setCell a u) := h.of (heapSet _ _ _ _ hb)
theorem BBox.new (s : ByteArray) (x : Value) (k n : Int) (w : World) : BBox w.heap.size s x k n (w.alloc (.cells #[.string s, x, .int .i64 k, .int .i64 n] 27)) := by
  constructor <;> simp [go_sem]
end Go.Proofs.YtghbnehocggnnaaDoor

/-
  Rows of bytes that a call builds: append of bytes and of texts, what is read back. No condition.
-/
set_option linter.unusedVariables false
set_option linter.unusedSimpArgs false
set_option maxRecDepth 100000
namespace Go.Proofs.YtghbnehocggnnaaDoor
open Go.RowKit

theorem infoB : (Tryd.prog.info? 5).map (fun i => (i.zero, i.size, i.bytes)) = some (some (.int .u8 0), 1, 1) := by kernel_rfl
/-- a row of bytes of one's own, from block lo on -/
def Bts (lo : Nat) (w : World) (v : Value) (l : List UInt8) : Prop := w.ownsRow lo 5 1 v l.length (Lib.byteCells l)
theorem Bts.nil (lo : Nat) (w : World) : Bts lo w (.slice none 0 0) [] := World.ownsRow_nil _ _ _ _
theorem Bts.below {lo : Nat} {w w' : World} {v : Value} {l : List UInt8} (h : Bts lo w v l) (hb : Below w.heap.size w w') : Bts lo w' v l := by
  refine ⟨h.1, ?_⟩
  rcases h.2 with h0 | ⟨g, cap, cur, rfl, h1, h2, h3⟩
  · exact .inl h0
  · exact .inr ⟨g, cap, cur, rfl, h1, by rw [hb.block g (Array.getElem?_eq_some_iff.1 h2).1]; exact h2, h3⟩
theorem Bts.alloc {lo : Nat} {w : World} {v : Value} {l : List UInt8} (h : Bts lo w v l) (o : Obj) : Bts lo (w.alloc o) v l := World.ownsRow.alloc h o
theorem Bts.drew {lo : Nat} {w : World} {v : Value} {l : List UInt8} (h : Bts lo w v l) : Bts lo w.drew v l := h
/-- what the row reads as -/
theorem Bts.str {lo : Nat} {w : World} {v : Value} {l : List UInt8} (h : Bts lo w v l) : (convert 31 9 v).run Tryd.prog w = .ok (.string ⟨l.toArray⟩) w := by
  rcases h.2 with ⟨rfl, h0⟩ | ⟨g, cap, cur, rfl, h1, h2, h3, h4, h5, h6⟩
  · obtain rfl : l = [] := List.length_eq_zero_iff.1 h0
    exact Lib.run_convert_nil_bytes w 31 9 5 0 Tryd.underlying31 Tryd.underlying5 Tryd.underlying9
  · refine run_convert_bytes_back (P := Tryd.prog) w 31 9 5 ⟨g, 0, none⟩ cap l Tryd.underlying31 Tryd.underlying5 Tryd.underlying9 (fun j hj => ?_)
    have h7 : (cur.toList.take (l.length * 1))[j]? = (Lib.byteCells l)[j]? := by rw [h6]
    rw [List.getElem?_take, if_pos (by omega)] at h7
    have h8 : cur[j]? = some (.int .u8 (l[j].toNat : Int)) := by
      rw [← Array.getElem?_toList, h7]; simp [Lib.byteCells, hj]
    unfold World.cell?
    rw [addr_add, Nat.zero_add]
    simp [h2, h8]
/-- the two frames: what lies below lo, and what is no row of bytes -/
def Kb (lo : Nat) (w w' : World) : Prop := Below lo w w' ∧ Lib.OthersKept 5 none w w'
theorem Kb.refl (lo : Nat) (w : World) : Kb lo w w := ⟨Below.refl _ _, Lib.OthersKept.refl _ _ _⟩
theorem Kb.trans {lo : Nat} {a b c : World} (h : Kb lo a b) (k : Kb lo b c) : Kb lo a c := ⟨h.1.trans k.1, h.2.trans k.2⟩
theorem Kb.size {lo : Nat} {a b : World} (h : Kb lo a b) : a.heap.size ≤ b.heap.size := h.1.size
theorem Kb.alloc {lo : Nat} {a w : World} (h : Kb lo a w) (hl : lo ≤ w.heap.size) (o : Obj) : Kb lo a (w.alloc o) := ⟨h.1.alloc hl o, h.2.alloc o⟩
theorem Kb.drew {lo : Nat} {a w : World} (h : Kb lo a w) : Kb lo a w.drew := ⟨h.1.drew, h.2.drew⟩
theorem Kb.of {lo : Nat} {a b : World} (h : Below a.heap.size a b) (hl : lo ≤ a.heap.size) : Kb lo a b :=
  ⟨h.mono hl, fun k o hk _ _ => (h.block k (Array.getElem?_eq_some_iff.1 hk).1).trans hk⟩
/-- a datum's box is no row of bytes -/
theorem Kb.dbox {lo : Nat} {a b : World} {c : Nat} {k n : Int} {s : ByteArray} {v : Value} (h : Kb lo a b) (hc : a.heap[c]? = some (.cells #[.int .i64 k, .int .i64 n, .string s, v] 40)) (hd : DBox c k n s v a) : DBox c k n s v b :=
  hd.of ((h.2 c _ hc (by simp) (by intro c fz h; injection h with h1 h2 h3; exact absurd h2 (by decide))).trans hc.symm)
/-- append(out, s...) -/
theorem wpBts_str {ops : Array Oper} {rest : List Oper} {o : Oper} {act : Act} {Q : Exit → Act → World → Prop} {W : World} (hgd : o.guard = none) (sl x : Operand) (ho : o.op = .call { callee := .builtin .append, args := #[sl, x], argTypes := #[31, 9] })
    (lo : Nat) (v : Value) (l : List UInt8) (hs : act.eval sl = v) (h : Bts lo W v l) (s : ByteArray) (hx : act.eval x = .string s) (hB : l.length + s.size ≤ 100000000000000) (hlo : lo ≤ W.heap.size) (l' : List UInt8) (hl' : l' = l ++ s.data.toList)
    (k : ∀ v' w', Bts lo w' v' l' → Kb lo W w' → wpList Tryd.prog ops Q rest (act.put o.dst v') w') : wpList Tryd.prog ops Q (o :: rest) act W := by
  subst hl'
  obtain ⟨i0, hi, hz0, hz1, hz2⟩ := info_parts infoB
  refine Lib.wpList_append_own_string W hgd sl x 31 9 ho lo 5 i0 Tryd.underlying31 Tryd.underlying9 hi hz0 hz1 hz2 v l.length _ hs h s hx (by unfold maxLen; omega) (by omega) hlo ?_
  intro v' w' h1 h2 _
  have hk : ∀ g, v.ownBlock = some g → lo ≤ g := by
    intro g hg
    rcases h.2 with ⟨rfl, _⟩ | ⟨g', cap, cur, rfl, h3, _⟩
    · cases hg
    · simp [Value.ownBlock] at hg; omega
  refine k v' w' ?_ ⟨(Below.refl lo W).grown h2 hlo hk, (Lib.OthersKept.refl _ _ _).grown h2 (Lib.ownsRow_kind h)⟩
  unfold Bts
  have e1 : (l ++ s.data.toList).length = l.length + s.size := by rw [List.length_append]; rfl
  have e2 : Lib.byteCells (l ++ s.data.toList) = Lib.byteCells l ++ Lib.strCells s := by rw [Lib.byteCells_append]; rfl
  rw [e1, e2]
  exact h1
/-- append(out, 'c') -/
theorem wpBts_byte {ops : Array Oper} {rest : List Oper} {o : Oper} {act : Act} {Q : Exit → Act → World → Prop} {W : World} (hgd : o.guard = none) (sl x : Operand) (ho : o.op = .call { callee := .builtin .append, args := #[sl, x], argTypes := #[31, 31] })
    (lo : Nat) (v : Value) (l : List UInt8) (hs : act.eval sl = v) (h : Bts lo W v l) (b : UInt8) (c : Int) (hc : c = (b.toNat : Int)) (hx : act.eval x = .slice (some ⟨W.heap.size, 0, none⟩) 1 1) (hB : l.length + 1 ≤ 100000000000000) (hlo : lo ≤ W.heap.size) (l' : List UInt8) (hl' : l' = l ++ [b])
    (k : ∀ v' w', Bts lo w' v' l' → Kb lo W w' → wpList Tryd.prog ops Q rest (act.put o.dst v') w') : wpList Tryd.prog ops Q (o :: rest) act (W.alloc (.cells #[.int .u8 c] 5)) := by
  subst hl'
  obtain ⟨i0, hi, hz0, hz1, hz2⟩ := info_parts infoB
  have hA := h.alloc (.cells #[.int .u8 c] 5)
  refine wpList_append_own _ hgd sl x 31 ho lo 5 i0 (.int .u8 0) 1 1 Tryd.underlying31 hi hz0 hz1 hz2 rfl (by decide) v l.length _ hs hA ⟨W.heap.size, 0, none⟩ 1 1 [.int .u8 c] hx rfl (by intro j u hj; match j, hj with | 0, hj => simp at hj; subst hj; simp [Addr.add]) (by intro u hu; simp at hu; subst hu; rfl) (by unfold maxLen; omega) (by omega) (by simp; omega) ?_
  intro v' w' h1 h2 _
  have hk : ∀ g, v.ownBlock = some g → lo ≤ g := by
    intro g hg
    rcases h.2 with ⟨rfl, _⟩ | ⟨g', cap, cur, rfl, h3, _⟩
    · cases hg
    · simp [Value.ownBlock] at hg; omega
  refine k v' w' ?_ ⟨((Below.refl lo W).alloc hlo _).grown h2 (by simp; omega) hk, ((Lib.OthersKept.refl _ _ _).alloc _).grown h2 (Lib.ownsRow_kind hA)⟩
  unfold Bts
  have e1 : (l ++ [b]).length = l.length + 1 := by simp
  have e2 : Lib.byteCells (l ++ [b]) = Lib.byteCells l ++ [.int .u8 c] := by rw [Lib.byteCells_append, hc]; rfl
  rw [e1, e2]
  exact h1
/-- a row of bytes is handed back -/
def RetB (lo : Nat) (l : List UInt8) (w : World) (e : Ending) (w' : World) : Prop := ∃ v, e = .returned v ∧ Bts lo w' v l ∧ Kb lo w w'
end Go.Proofs.YtghbnehocggnnaaDoor

/-
  Walks: the program's text of a datum. Condition: the library's table of powers of ten reads as laid.
-/
set_option linter.unusedVariables false
set_option linter.unusedSimpArgs false
set_option maxRecDepth 100000
namespace Go.Proofs.YtghbnehocggnnaaDoor
open Go.RowKit

theorem heapBox (w : World) (o : Obj) : (w.alloc o).heap[w.heap.size]? = some o := by
  show (w.heap.push o)[w.heap.size]? = _
  simp
theorem Dat.wfL_iff {ds : List Dat} : Dat.wfL ds ↔ ∀ d ∈ ds, d.wf := by
  induction ds with
  | nil => simp [Dat.wfL]
  | cons d r ih => simp [Dat.wfL, ih]
theorem Dat.wfL_take {ds : List Dat} (h : Dat.wfL ds) (j : Nat) : Dat.wfL (ds.take j) := Dat.wfL_iff.2 fun d hd => Dat.wfL_iff.1 h d (List.mem_of_mem_take hd)
theorem Dat.wtX_pre : ∀ {ds : List Dat} {j : Nat} {d : Dat}, ds[j]? = some d → Dat.wtX (ds.take j) + d.wt ≤ Dat.wtX ds
  | [], j, d, h => by simp at h
  | x :: r, 0, d, h => by simp at h; subst h; simp [Dat.wtX]
  | x :: r, j + 1, d, h => by have := Dat.wtX_pre (ds := r) (j := j) (by simpa using h); rw [List.take_succ_cons]; simp only [Dat.wtX]; omega
theorem fmt_step0 (l : List UInt8) {ds : List Dat} {d : Dat} (h : ds[0]? = some d) : l ++ 40 :: joinB [32] (fmtL (ds.take (0 + 1))) = (l ++ 40 :: joinB [32] (fmtL (ds.take 0))) ++ fmtD d := by
  rw [fmtL_take h]; simp [fmtL, joinB]
theorem fmt_step (l : List UInt8) {ds : List Dat} {j : Nat} {d : Dat} (hj : 0 < j) (h : ds[j]? = some d) : l ++ 40 :: joinB [32] (fmtL (ds.take (j + 1))) = ((l ++ 40 :: joinB [32] (fmtL (ds.take j))) ++ [32]) ++ fmtD d := by
  rw [fmtL_take h, joinB_snoc]
  have hne : (fmtL (ds.take j)).isEmpty = false := by
    rw [fmtL_map]
    cases ds with
    | nil => simp at h
    | cons y r => cases j with
      | zero => omega
      | succ j => simp
  rw [hne]; simp
def WdSs (ds : List Dat) : Prop := ∀ (k n : Int) (s : ByteArray) (a : Option Addr) (cap : Nat) (ms : List M) (l : List UInt8) (v : Value) (w0 w : World), (Dat.mk k n s ds).wf → l.length + 60 * (s.size + (ds.length + Dat.wtX ds)) + 100 ≤ 1000000000000 → Dat.IsL 40 ds ms → (M.sl a cap 4 40 ms).In w0 →
    Bts w0.heap.size w v l → Below w0.heap.size w0 w → Tab w0.heap.size w0 →
    Calls Tryd.prog 27 #[v, .agg #[.int .i64 k, .int .i64 n, .string s, .slice a ms.length cap]] w (RetB w0.heap.size (l ++ fmtD (.mk k n s ds)) w)
set_option maxHeartbeats 2000000 in
theorem writeDatum_calls : ∀ ds, WdSs ds := by
  refine Dat.inductL fun ds ih => ?_
  intro k n s a cap ms l v w0 w hwf hB hi hin ho hb0 hT
  have hl := hi.length
  have hcap := hin.len
  have hz0 := hb0.size
  have hwd : I64 n ∧ Dat.wfL ds := ⟨hwf.2.1, hwf.2.2.2⟩
  have hbx : DBox w.heap.size k n s (.slice a ms.length cap) (w.alloc (.cells #[.int .i64 k, .int .i64 n, .string s, .slice a ms.length cap] 40)) := DBox.new _ _ _ _ _
  have hhp : (w.alloc (.cells #[.int .i64 k, .int .i64 n, .string s, .slice a ms.length cap] 40)).heap[w.heap.size]? = some (.cells #[.int .i64 k, .int .i64 n, .string s, .slice a ms.length cap] 40) := heapBox _ _
  have hA := (Kb.refl w0.heap.size w).alloc hz0 (.cells #[.int .i64 k, .int .i64 n, .string s, .slice a ms.length cap] 40)
  have hoA := ho.alloc (.cells #[.int .i64 k, .int .i64 n, .string s, .slice a ms.length cap] 40)
  have IH := Lib.hid ih; clear ih; have HIN := Lib.hid hin; clear hin; have HI := Lib.hid hi; clear hi; have HL := Lib.hid hl; clear hl; have HWF := Lib.hid hwf; clear hwf; have HWD := Lib.hid hwd; clear hwd; have HO := Lib.hid ho; clear ho; have HT := Lib.hid hT; clear hT; have HBX := Lib.hid hbx; clear hbx; have HHP := Lib.hid hhp; clear hhp; have HA := Lib.hid hA; clear hA; have HOA := Lib.hid hoA; clear hoA
  by_cases h1 : k = 1
  · subst h1
    have hf := fmtD_sym n s ds
    have HF := Lib.hid hf; clear hf
    go_enter Tryd.func27, Tryd.ntmps27
    go_wp2_with (at_builtin; refine wpBts_str rfl _ _ rfl w0.heap.size v l rfl HOA.out s rfl (by omega) (by simp; omega) _ (by first | rfl | (simp; done)) ?_)
    intro v3 w3 h3 hk3
    have H3 := Lib.hid h3; clear h3; have HK3 := Lib.hid hk3; clear hk3
    go_wp2_with fail
    go_ret
    exact ⟨v3, rfl, by rw [HF.out]; first | exact H3.out | simpa using H3.out, HA.out.trans HK3.out⟩
  by_cases h2 : k = 2
  · subst h2
    have hf := fmtD_num n s ds
    have HF := Lib.hid hf; clear hf
    go_enter Tryd.func27, Tryd.ntmps27
    go_wp2_with fail
    refine (iFormatNumber_calls n _ HWD.out.1 w0.heap.size (HT.out.on (by (repeat (first | with_reducible assumption | with_reducible exact Below.refl _ _ | with_reducible refine Below.drew ?_ | with_reducible refine belowDrewN ?_ _ | ((with_reducible refine Below.setCell ?_ ?_ _); rotate_left; focus (first | omega | (simp; done) | (simp; omega))) | ((with_reducible refine Below.alloc ?_ ?_ _); rotate_left; focus (first | omega | (simp; done) | (simp; omega))))))) (by simp; omega)).mono ?_
    rintro e w1 ⟨rfl, hb1⟩
    have hz1 := hb1.size
    simp only [World.size_alloc] at hz1
    have hlen := Lib.itoa_length_le n HWD.out.1.1 HWD.out.1.2
    have ho1 := HOA.out.below hb1
    have hk1 := HA.out.trans (Kb.of hb1 (by simp; omega))
    have HO1 := Lib.hid ho1; clear ho1; have HK1 := Lib.hid hk1; clear hk1
    go_wp2_with (at_builtin; refine wpBts_str rfl _ _ rfl w0.heap.size v l rfl HO1.out ⟨(Lib.itoa n).toArray⟩ rfl (by simp [ByteArray.size]; omega) (by omega) _ (by first | rfl | (simp; done)) ?_)
    intro v3 w3 h3 hk3
    have H3 := Lib.hid h3; clear h3; have HK3 := Lib.hid hk3; clear hk3
    go_wp2_with fail
    go_ret
    exact ⟨v3, rfl, by rw [HF.out]; first | exact H3.out | simpa using H3.out, HK1.out.trans HK3.out⟩
  by_cases h3 : k = 3
  · subst h3
    by_cases hn : n = 1
    · subst hn
      have hf := fmtD_tr s ds
      have HF := Lib.hid hf; clear hf
      go_enter Tryd.func27, Tryd.ntmps27
      go_wp2_with (at_builtin; refine wpBts_str rfl _ _ rfl w0.heap.size v l rfl HOA.out ⟨#[35, 116]⟩ rfl (by simp [ByteArray.size]; omega) (by simp; omega) _ (by first | rfl | (simp; done)) ?_)
      intro v3 w3 h3 hk3
      have H3 := Lib.hid h3; clear h3; have HK3 := Lib.hid hk3; clear hk3
      go_wp2_with fail
      go_ret
      exact ⟨v3, rfl, by rw [HF.out]; first | exact H3.out | simpa using H3.out, HA.out.trans HK3.out⟩
    · have hf := fmtD_fa hn s ds
      have hnb : (n == 1) = false := by simp [hn]
      have HF := Lib.hid hf; clear hf; have HN := Lib.hid hn; clear hn
      go_enter Tryd.func27, Tryd.ntmps27
      go_wp2_with (at_builtin; refine wpBts_str rfl _ _ rfl w0.heap.size v l rfl HOA.out ⟨#[35, 102]⟩ rfl (by simp [ByteArray.size]; omega) (by simp; omega) _ (by first | rfl | (simp; done)) ?_)
      intro v3 w3 h3 hk3
      have H3 := Lib.hid h3; clear h3; have HK3 := Lib.hid hk3; clear hk3
      go_wp2_with fail
      go_ret
      exact ⟨v3, rfl, by rw [HF.out]; first | exact H3.out | simpa using H3.out, HA.out.trans HK3.out⟩
  by_cases h4 : k = 4
  · subst h4
    have hf := fmtD_str n s ds
    obtain ⟨L1, hL1⟩ : ∃ L, L = l ++ [34] := ⟨_, rfl⟩
    obtain ⟨L2, hL2⟩ : ∃ L, L = L1 ++ s.data.toList := ⟨_, rfl⟩
    obtain ⟨L3, hL3⟩ : ∃ L, L = L2 ++ [34] := ⟨_, rfl⟩
    have hfl : l ++ (34 :: (s.data.toList ++ [34])) = L3 := by rw [hL3, hL2, hL1]; simp
    have hn1 : L1.length = l.length + 1 := by rw [hL1, List.length_append]; rfl
    have hn2 : L2.length = l.length + 1 + s.size := by rw [hL2, List.length_append, hn1]; rfl
    have HF := Lib.hid hf; clear hf; have HFL := Lib.hid hfl; clear hfl; have HL1 := Lib.hid hL1; clear hL1; have HL2 := Lib.hid hL2; clear hL2; have HL3 := Lib.hid hL3; clear hL3; have HN1 := Lib.hid hn1; clear hn1; have HN2 := Lib.hid hn2; clear hn2
    go_enter Tryd.func27, Tryd.ntmps27
    go_wp2_with (at_builtin; refine wpBts_byte rfl _ _ rfl w0.heap.size v l rfl HOA.out 34 34 rfl (by first | rfl | (simp [go_sem]; done)) (by omega) (by simp; omega) L1 HL1.out ?_)
    intro v3 w3 h3 hk3
    have hz3 := hk3.size
    simp only [World.size_alloc] at hz3
    obtain ⟨q0, q1, q2, q3, f0, f1, f2, f3⟩ := hk3.dbox HHP.out HBX.out
    have H3 := Lib.hid h3; clear h3; have HK3 := Lib.hid hk3; clear hk3
    go_wp2_with (at_builtin; refine wpBts_str rfl _ _ rfl w0.heap.size v3 L1 rfl H3.out s rfl (by have := HN1.out; omega) (by omega) L2 HL2.out ?_)
    intro v5 w5 h5 hk5
    have hz5 := hk5.size
    have H5 := Lib.hid h5; clear h5; have HK5 := Lib.hid hk5; clear hk5
    clear q0 q1 q2 q3 f0 f1 f2 f3
    go_wp2_with (at_builtin; refine wpBts_byte rfl _ _ rfl w0.heap.size v5 L2 rfl H5.out 34 34 rfl (by first | rfl | (simp [go_sem]; done)) (by have := HN2.out; omega) (by omega) L3 HL3.out ?_)
    intro v6 w6 h6 hk6
    have H6 := Lib.hid h6; clear h6; have HK6 := Lib.hid hk6; clear hk6
    go_wp2_with fail
    go_ret
    exact ⟨v6, rfl, by rw [HF.out, HFL.out]; exact H6.out, ((HA.out.trans HK3.out).trans HK5.out).trans HK6.out⟩
  · have hf := fmtD_list h1 h2 h3 h4 n s ds
    have e1 : (k == 1) = false := by simp [h1]
    have e2 : (k == 2) = false := by simp [h2]
    have e3 : (k == 3) = false := by simp [h3]
    have e4 : (k == 4) = false := by simp [h4]
    have HF := Lib.hid hf; clear hf
    clear h1 h2 h3 h4
    go_enter Tryd.func27, Tryd.ntmps27
    go_wp2_with (at_builtin; refine wpBts_byte rfl _ _ rfl w0.heap.size v l rfl HOA.out 40 40 rfl (by first | rfl | (simp [go_sem]; done)) (by omega) (by simp; omega) (l ++ [40]) rfl ?_)
    intro v3 w3 h3 hk3
    have hz3 := hk3.size
    simp only [World.size_alloc] at hz3
    obtain ⟨q0, q1, q2, q3, f0, f1, f2, f3⟩ := hk3.dbox HHP.out HBX.out
    have hk4 := HA.out.trans hk3
    have H3 := Lib.hid h3; clear h3; have HK3 := Lib.hid hk3; clear hk3; have HK4 := Lib.hid hk4; clear hk4
    go_wp2_with fail
    go_loopw [0, 5, 49] (fun o u i wr => ∃ (j : Nat) (v' : Value), j ≤ ms.length ∧ i = .int .i64 j ∧ v' = o ∧ Bts w0.heap.size wr v' (l ++ 40 :: joinB [32] (fmtL (ds.take j))) ∧ Kb w0.heap.size w wr) (fun _ _ i _ => ms.length - (intOf i).toNat)
    case atStart => exact ⟨0, v3, Nat.zero_le _, rfl, rfl, by simpa [fmtL, joinB] using H3.out, HK4.out⟩
    case round =>
      obtain ⟨j, v', hj, rfl, rfl, hbt, hk⟩ := hrel
      have hzk := hk.size
      by_cases hlt : j < ms.length
      · obtain ⟨bb, off, k1, n1, s1, ds1, a1, cap1, ms1, rfl, hd, hi1, hin1, c0, c1, c2, c3⟩ := Dat.elem HIN.out HI.out j hlt
        have hbl := World.block_lt_of_cell? w0 _ c0
        simp only at hbl
        have hbw : Below w0.heap.size w0 wr := hb0.trans hk.1
        have g0 := (hbw.cell (p := ⟨bb, _, none⟩) hbl).trans c0
        have g1 := (hbw.cell (p := ⟨bb, _, none⟩) hbl).trans c1
        have g2 := (hbw.cell (p := ⟨bb, _, none⟩) hbl).trans c2
        have g3 := (hbw.cell (p := ⟨bb, _, none⟩) hbl).trans c3
        clear c0 c1 c2 c3
        have hmem := List.mem_of_getElem? hd
        have hwt := Dat.wtX_pre hd
        have hjl := joinB_length [32] (fmtL (ds.take j))
        have hsum := fmt_wt (ds.take j) (Dat.wfL_take HWD.out.2 j)
        have htl : (ds.take j).length ≤ j := by simp; omega
        simp only [Dat.wt] at hwt
        simp only [List.length_singleton] at hjl
        have hlds := HL.out
        have hll : (l ++ 40 :: joinB [32] (fmtL (ds.take j))).length = l.length + 1 + (joinB [32] (fmtL (ds.take j))).length := by simp; omega
        have hwf1 := Dat.wfL_get HWD.out.2 hd
        have hnx : DBox wr.heap.size k1 n1 s1 (.slice a1 ms1.length cap1) (wr.alloc (.cells #[.int .i64 k1, .int .i64 n1, .string s1, .slice a1 ms1.length cap1] 40)) := DBox.new _ _ _ _ _
        have hnp : (wr.alloc (.cells #[.int .i64 k1, .int .i64 n1, .string s1, .slice a1 ms1.length cap1] 40)).heap[wr.heap.size]? = some (.cells #[.int .i64 k1, .int .i64 n1, .string s1, .slice a1 ms1.length cap1] 40) := heapBox _ _
        have hkA := hk.alloc (by omega) (.cells #[.int .i64 k1, .int .i64 n1, .string s1, .slice a1 ms1.length cap1] 40)
        have hbA := hbt.alloc (.cells #[.int .i64 k1, .int .i64 n1, .string s1, .slice a1 ms1.length cap1] 40)
        by_cases hj0 : j = 0
        · subst hj0
          have hst := fmt_step0 l hd
          simp only [Nat.zero_mul, Nat.add_zero] at g0 g1 g2 g3
          have HD := Lib.hid hd; clear hd; have HI1 := Lib.hid hi1; clear hi1; have HIN1 := Lib.hid hin1; clear hin1; have HBT := Lib.hid hbt; clear hbt; have HMEM := Lib.hid hmem; clear hmem; have HK := Lib.hid hk; clear hk; have HWT := Lib.hid hwt; clear hwt; have HJL := Lib.hid hjl; clear hjl; have HSUM := Lib.hid hsum; clear hsum; have HTL := Lib.hid htl; clear htl; have HLDS := Lib.hid hlds; clear hlds; have HLL := Lib.hid hll; clear hll; have HWF1 := Lib.hid hwf1; clear hwf1; have HNX := Lib.hid hnx; clear hnx; have HNP := Lib.hid hnp; clear hnp; have HKA := Lib.hid hkA; clear hkA; have HBA := Lib.hid hbA; clear hbA; have HST := Lib.hid hst; clear hst; have HBW := Lib.hid hbw; clear hbw
          go_wp2_with fail
          refine (IH.out k1 n1 s1 ds1 HMEM.out k1 n1 s1 a1 cap1 ms1 _ v' w0 _ HWF1.out (by have := HWT.out; have := HLL.out; have := HJL.out; have := HSUM.out; have := HTL.out; have := HLDS.out; omega) HI1.out HIN1.out HBA.out (HBW.out.trans (Below.alloc (Below.refl _ _) (by omega) _)) HT.out).mono ?_
          rintro e w9 ⟨v9, rfl, h9, hk9⟩
          have H9 := Lib.hid h9; clear h9; have HK9 := Lib.hid hk9; clear hk9
          go_wp2_with fail
          go_roundw
          case rel => exact ⟨0 + 1, v9, by omega, by go_num, rfl, by rw [HST.out]; exact H9.out, HKA.out.trans HK9.out⟩
          case measure => simp [intOf]; omega
        · have hpos : 0 < j := by omega
          have hst := fmt_step l hpos hd
          obtain ⟨L7, hL7⟩ : ∃ L, L = (l ++ 40 :: joinB [32] (fmtL (ds.take j))) ++ [32] := ⟨_, rfl⟩
          rw [← hL7] at hst
          have hl7 : L7.length = (l ++ 40 :: joinB [32] (fmtL (ds.take j))).length + 1 := by rw [hL7, List.length_append]; rfl
          have HD := Lib.hid hd; clear hd; have HI1 := Lib.hid hi1; clear hi1; have HIN1 := Lib.hid hin1; clear hin1; have HBT := Lib.hid hbt; clear hbt; have HMEM := Lib.hid hmem; clear hmem; have HK := Lib.hid hk; clear hk; have HWT := Lib.hid hwt; clear hwt; have HJL := Lib.hid hjl; clear hjl; have HSUM := Lib.hid hsum; clear hsum; have HTL := Lib.hid htl; clear htl; have HLDS := Lib.hid hlds; clear hlds; have HLL := Lib.hid hll; clear hll; have HWF1 := Lib.hid hwf1; clear hwf1; have HNX := Lib.hid hnx; clear hnx; have HNP := Lib.hid hnp; clear hnp; have HKA := Lib.hid hkA; clear hkA; have HBA := Lib.hid hbA; clear hbA; have HST := Lib.hid hst; clear hst; have HBW := Lib.hid hbw; clear hbw; have HL7 := Lib.hid hL7; clear hL7; have HL7_ := Lib.hid hl7; clear hl7
          go_wp2_with (at_builtin; refine wpBts_byte rfl _ _ rfl w0.heap.size v' _ rfl HBA.out 32 32 rfl (by first | rfl | (simp [go_sem]; done)) (by have := HWT.out; have := HLL.out; have := HJL.out; have := HSUM.out; have := HTL.out; have := HLDS.out; omega) (by simp; omega) L7 HL7.out ?_)
          intro v7 w7 h7 hk7
          have hz7 := hk7.size
          simp only [World.size_alloc] at hz7
          obtain ⟨r0, r1, r2, r3, m0, m1, m2, m3⟩ := hk7.dbox HNP.out HNX.out
          have hbw7 : Below w0.heap.size w0 w7 := (HBW.out.trans (Below.alloc (Below.refl _ _) (by omega) _)).trans hk7.1
          have H7 := Lib.hid h7; clear h7; have HK7 := Lib.hid hk7; clear hk7; have HBW7 := Lib.hid hbw7; clear hbw7
          go_wp2_with fail
          refine (IH.out k1 n1 s1 ds1 HMEM.out k1 n1 s1 a1 cap1 ms1 _ v7 w0 _ HWF1.out (by have := HL7_.out; have := HWT.out; have := HLL.out; have := HJL.out; have := HSUM.out; have := HTL.out; have := HLDS.out; omega) HI1.out HIN1.out H7.out HBW7.out HT.out).mono ?_
          rintro e w9 ⟨v9, rfl, h9, hk9⟩
          have H9 := Lib.hid h9; clear h9; have HK9 := Lib.hid hk9; clear hk9
          go_wp2_with fail
          go_roundw
          case rel => exact ⟨j + 1, v9, by omega, by go_num, rfl, by rw [HST.out]; exact H9.out, (HKA.out.trans HK7.out).trans HK9.out⟩
          case measure => simp [intOf]; omega
      · have hk2 : j = ms.length := by omega
        subst hk2
        rw [HL.out, List.take_length] at hbt
        have hjl := joinB_length [32] (fmtL ds)
        have hsum := fmt_wt ds HWD.out.2
        simp only [List.length_singleton] at hjl
        have hll : (l ++ 40 :: joinB [32] (fmtL ds)).length = l.length + 1 + (joinB [32] (fmtL ds)).length := by simp; omega
        obtain ⟨L9, hL9⟩ : ∃ L, L = (l ++ 40 :: joinB [32] (fmtL ds)) ++ [41] := ⟨_, rfl⟩
        have hfl : l ++ (40 :: (joinB [32] (fmtL ds) ++ [41])) = L9 := by rw [hL9]; simp
        have HBT := Lib.hid hbt; clear hbt; have HK := Lib.hid hk; clear hk; have HJL := Lib.hid hjl; clear hjl; have HSUM := Lib.hid hsum; clear hsum; have HLL := Lib.hid hll; clear hll; have HFL := Lib.hid hfl; clear hfl; have HL9 := Lib.hid hL9; clear hL9
        go_wp2_with (at_builtin; refine wpBts_byte rfl _ _ rfl w0.heap.size v' _ rfl HBT.out 41 41 rfl (by first | rfl | (simp [go_sem]; done)) (by have := HLL.out; have := HJL.out; have := HSUM.out; omega) (by omega) L9 HL9.out ?_)
        intro v7 w7 h7 hk7
        have H7 := Lib.hid h7; clear h7; have HK7 := Lib.hid hk7; clear hk7
        go_wp2_with fail
        go_ret
        exact ⟨v7, rfl, by rw [HF.out, HFL.out]; exact H7.out, HK.out.trans HK7.out⟩
end Go.Proofs.YtghbnehocggnnaaDoor

/-
  Walks: the text of several data. Condition: the library's table of powers of ten reads as laid.
-/
set_option linter.unusedVariables false
set_option linter.unusedSimpArgs false
set_option maxRecDepth 100000
namespace Go.Proofs.YtghbnehocggnnaaDoor
open Go.RowKit

/-- a line for each datum -/
def fmtLn : List Dat → List UInt8
  | [] => []
  | d :: r => fmtD d ++ 10 :: fmtLn r
theorem fmtLn_snoc : ∀ (ds : List Dat) (d : Dat), fmtLn (ds ++ [d]) = (fmtLn ds ++ fmtD d) ++ [10]
  | [], d => by simp [fmtLn]
  | x :: r, d => by rw [List.cons_append, fmtLn, fmtLn, fmtLn_snoc r d]; simp
theorem fmtLn_take {ds : List Dat} {j : Nat} {d : Dat} (h : ds[j]? = some d) : fmtLn (ds.take (j + 1)) = (fmtLn (ds.take j) ++ fmtD d) ++ [10] := by
  rw [take_snoc h, fmtLn_snoc]
theorem fmtLn_length : ∀ ds : List Dat, (fmtLn ds).length = ((fmtL ds).map fun x => x.length + 1).sum
  | [] => rfl
  | d :: r => by have := fmtLn_length r; simp only [fmtLn, fmtL, List.length_append, List.length_cons, List.map_cons, List.sum_cons]; omega
noncomputable def fmtsOf (ds : List Dat) : List UInt8 := if areB ds = true then fmtLn ds else []
theorem areB_ok {ds : List Dat} (h : areB ds = true) : ∀ d ∈ ds, d.ok := by
  have h2 : AreP ds := by simpa [areB] using h
  exact h2.2.2
set_option maxHeartbeats 1000000 in
theorem sFormatData_calls (ds : List Dat) (a : Option Addr) (cap : Nat) (ms : List M) (w : World) (hwl : Dat.wfL ds) (hB : Dat.countL ds ≤ 1000000000) (hW : ds.length + Dat.wtX ds ≤ 2000000) (hi : Dat.IsL 40 ds ms) (hin : (M.sl a cap 4 40 ms).In w) :
    Calls Tryd.prog 35 #[.slice a ms.length cap] w (Ret (.string ⟨(fmtsOf ds).toArray⟩) w) := by
  have hl := hi.length
  have hcap := hin.len
  have HI := Lib.hid hi; clear hi; have HIN := Lib.hid hin; clear hin; have HWL := Lib.hid hwl; clear hwl; have HL := Lib.hid hl; clear hl
  cases hv : areB ds with
  | true =>
    have hs : fmtsOf ds = fmtLn ds := by unfold fmtsOf; rw [if_pos hv]
    have hok := areB_ok hv
    rw [hs]
    have HS := Lib.hid hs; clear hs; have HOK := Lib.hid hok; clear hok
    go_enter Tryd.func35, Tryd.ntmps35
    go_wp2_with fail
    refine (sAreData_calls ds a cap ms _ HWL.out hB HI.out (HIN.out.below (by (repeat (first | with_reducible assumption | with_reducible exact Below.refl _ _ | with_reducible refine Below.drew ?_ | with_reducible refine belowDrewN ?_ _ | ((with_reducible refine Below.setCell ?_ ?_ _); rotate_left; focus (first | omega | (simp; done) | (simp; omega))) | ((with_reducible refine Below.alloc ?_ ?_ _); rotate_left; focus (first | omega | (simp; done) | (simp; omega)))))))).mono ?_
    rintro e w1 ⟨rfl, hb1⟩
    rw [hv]
    have HV := Lib.hid hv; clear hv
    go_wp2_with fail
    go_loopw [3, 11] (fun o i wr => ∃ (j : Nat), j ≤ ms.length ∧ i = .int .i64 j ∧ o = .string ⟨(fmtLn (ds.take j)).toArray⟩ ∧ Below w.heap.size w wr) (fun _ i _ => ms.length - (intOf i).toNat)
    case atStart => exact ⟨0, Nat.zero_le _, rfl, rfl, by (repeat (first | with_reducible assumption | with_reducible exact Below.refl _ _ | with_reducible refine Below.drew ?_ | with_reducible refine belowDrewN ?_ _ | ((with_reducible refine Below.setCell ?_ ?_ _); rotate_left; focus (first | omega | (simp; done) | (simp; omega))) | ((with_reducible refine Below.alloc ?_ ?_ _); rotate_left; focus (first | omega | (simp; done) | (simp; omega))) | ((with_reducible refine Below.trans ?_ (Below.mono hb1 ?_)); rotate_left; focus (first | omega | (simp; done) | (simp; omega)))))⟩
    case round =>
      obtain ⟨j, hj, rfl, rfl, hb⟩ := hrel
      have hz := hb.size
      by_cases hlt : j < ms.length
      · obtain ⟨bb, off, k1, n1, s1, ds1, a1, cap1, ms1, rfl, hd, hi1, hin1, c0, c1, c2, c3⟩ := Dat.elem (HIN.out.below hb) HI.out j hlt
        have hmem := List.mem_of_getElem? hd
        have hwt1 := Dat.wtX_pre hd
        simp only [Dat.wt] at hwt1
        have hft := fmtLn_take hd
        have hln := fmtLn_length (ds.take j)
        have hsum := fmt_wt (ds.take j) (Dat.wfL_take HWL.out j)
        have hlj : (ds.take j).length ≤ j := by simp; omega
        have hwf1 := Dat.wfL_get HWL.out hd
        have hfl : (fmtD (.mk k1 n1 s1 ds1)).length ≤ 10000000000 := by
          have h1 := fmt_wt [.mk k1 n1 s1 ds1] ⟨hwf1, trivial⟩
          simp only [fmtL, List.map_cons, List.map_nil, List.sum_cons, List.sum_nil, Dat.wtX, Dat.wt, List.length_singleton] at h1
          omega
        generalize hcur : fmtLn (ds.take j) = cur at *
        have hlds := HL.out
        have hcl : cur.length ≤ 10000000000 := by omega
        have hns1 : ¬ (9223372036854775807 < cur.length + (fmtD (.mk k1 n1 s1 ds1)).length) := by omega
        have hns2 : ¬ (9223372036854775807 < cur.length + (fmtD (.mk k1 n1 s1 ds1)).length + 1) := by omega
        have hap1 := baApp cur (fmtD (.mk k1 n1 s1 ds1))
        have hap2 := baApp (cur ++ fmtD (.mk k1 n1 s1 ds1)) [10]
        have HD := Lib.hid hd; clear hd; have HI1 := Lib.hid hi1; clear hi1; have HIN1 := Lib.hid hin1; clear hin1; have HMEM := Lib.hid hmem; clear hmem; have HFT := Lib.hid hft; clear hft; have HCUR := Lib.hid hcur; clear hcur; have HAP1 := Lib.hid hap1; clear hap1; have HAP2 := Lib.hid hap2; clear hap2; have HWF1 := Lib.hid hwf1; clear hwf1; have HLN := Lib.hid hln; clear hln; have HSUM := Lib.hid hsum; clear hsum; have HWT1 := Lib.hid hwt1; clear hwt1; have HFL := Lib.hid hfl; clear hfl; have HCL := Lib.hid hcl; clear hcl; have HLDS := Lib.hid hlds; clear hlds
        go_wp2_with fail
        refine (l1Format_calls ds1 k1 n1 s1 a1 cap1 ms1 _ HWF1.out (HOK.out _ HMEM.out) (by have := HWT1.out; omega) HI1.out (HIN1.out.below (by (repeat (first | with_reducible assumption | with_reducible exact Below.refl _ _ | with_reducible refine Below.drew ?_ | with_reducible refine belowDrewN ?_ _ | ((with_reducible refine Below.setCell ?_ ?_ _); rotate_left; focus (first | omega | (simp; done) | (simp; omega))) | ((with_reducible refine Below.alloc ?_ ?_ _); rotate_left; focus (first | omega | (simp; done) | (simp; omega)))))))).mono ?_
        rintro e w2 ⟨rfl, hb2⟩
        go_wp2_with fail
        go_roundw
        case rel => exact ⟨j + 1, by omega, by go_num, by rw [HFT.out, ← HAP2.out, ← HAP1.out], by (repeat (first | with_reducible assumption | with_reducible exact Below.refl _ _ | with_reducible refine Below.drew ?_ | with_reducible refine belowDrewN ?_ _ | ((with_reducible refine Below.setCell ?_ ?_ _); rotate_left; focus (first | omega | (simp; done) | (simp; omega))) | ((with_reducible refine Below.alloc ?_ ?_ _); rotate_left; focus (first | omega | (simp; done) | (simp; omega))) | ((with_reducible refine Below.trans ?_ (Below.mono hb2 ?_)); rotate_left; focus (first | omega | (simp; done) | (simp; omega)))))⟩
        case measure => simp [intOf]; omega
      · have hk2 : j = ms.length := by omega
        subst hk2
        rw [HL.out, List.take_length]
        go_wp2_with fail
        go_ret
        exact ⟨rfl, by (repeat (first | with_reducible assumption | with_reducible exact Below.refl _ _ | with_reducible refine Below.drew ?_ | with_reducible refine belowDrewN ?_ _ | ((with_reducible refine Below.setCell ?_ ?_ _); rotate_left; focus (first | omega | (simp; done) | (simp; omega))) | ((with_reducible refine Below.alloc ?_ ?_ _); rotate_left; focus (first | omega | (simp; done) | (simp; omega)))))⟩
  | false =>
    have hs : fmtsOf ds = [] := by unfold fmtsOf; rw [if_neg (by rw [hv]; decide)]
    rw [hs]
    have HS := Lib.hid hs; clear hs
    go_enter Tryd.func35, Tryd.ntmps35
    go_wp2_with fail
    refine (sAreData_calls ds a cap ms _ HWL.out hB HI.out (HIN.out.below (by (repeat (first | with_reducible assumption | with_reducible exact Below.refl _ _ | with_reducible refine Below.drew ?_ | with_reducible refine belowDrewN ?_ _ | ((with_reducible refine Below.setCell ?_ ?_ _); rotate_left; focus (first | omega | (simp; done) | (simp; omega))) | ((with_reducible refine Below.alloc ?_ ?_ _); rotate_left; focus (first | omega | (simp; done) | (simp; omega)))))))).mono ?_
    rintro e w1 ⟨rfl, hb1⟩
    rw [hv]
    go_wp2_with fail
    go_ret
    exact ⟨rfl, by (repeat (first | with_reducible assumption | with_reducible exact Below.refl _ _ | with_reducible refine Below.drew ?_ | with_reducible refine belowDrewN ?_ _ | ((with_reducible refine Below.setCell ?_ ?_ _); rotate_left; focus (first | omega | (simp; done) | (simp; omega))) | ((with_reducible refine Below.alloc ?_ ?_ _); rotate_left; focus (first | omega | (simp; done) | (simp; omega))) | ((with_reducible refine Below.trans ?_ (Below.mono hb1 ?_)); rotate_left; focus (first | omega | (simp; done) | (simp; omega)))))⟩
set_option maxHeartbeats 1000000 in
theorem iFormatData_calls (ds : List Dat) (a : Option Addr) (cap : Nat) (ms : List M) (w : World) (hwl : Dat.wfL ds) (hB : Dat.countL ds ≤ 1000000000) (hW : ds.length + Dat.wtX ds ≤ 2000000) (hi : Dat.IsL 40 ds ms) (hin : (M.sl a cap 4 40 ms).In w) (B : Nat) (hT : Tab B w) (hBw : B ≤ w.heap.size) :
    Calls Tryd.prog 11 #[.slice a ms.length cap] w (Ret (.string ⟨(fmtsOf ds).toArray⟩) w) := by
  have hl := hi.length
  have hcap := hin.len
  have hT2 := hT.mono hBw
  have HI := Lib.hid hi; clear hi; have HIN := Lib.hid hin; clear hin; have HWL := Lib.hid hwl; clear hwl; have HL := Lib.hid hl; clear hl; have HT := Lib.hid hT; clear hT; have HT2 := Lib.hid hT2; clear hT2
  cases hv : areB ds with
  | true =>
    have hs : fmtsOf ds = fmtLn ds := by unfold fmtsOf; rw [if_pos hv]
    rw [hs]
    have HS := Lib.hid hs; clear hs
    go_enter Tryd.func11, Tryd.ntmps11
    go_wp2_with fail
    refine (iAreData_calls ds a cap ms _ HWL.out hB HI.out (HIN.out.below (by (repeat (first | with_reducible assumption | with_reducible exact Below.refl _ _ | with_reducible refine Below.drew ?_ | with_reducible refine belowDrewN ?_ _ | ((with_reducible refine Below.setCell ?_ ?_ _); rotate_left; focus (first | omega | (simp; done) | (simp; omega))) | ((with_reducible refine Below.alloc ?_ ?_ _); rotate_left; focus (first | omega | (simp; done) | (simp; omega)))))))).mono ?_
    rintro e w1 ⟨rfl, hb1⟩
    rw [hv]
    have HV := Lib.hid hv; clear hv
    go_wp2_with fail
    go_loopw [3, 11] (fun o i wr => ∃ (j : Nat) (v' : Value), j ≤ ms.length ∧ i = .int .i64 j ∧ v' = o ∧ Bts w.heap.size wr v' (fmtLn (ds.take j)) ∧ Below w.heap.size w wr) (fun _ i _ => ms.length - (intOf i).toNat)
    case atStart => exact ⟨0, _, Nat.zero_le _, rfl, rfl, by simpa [fmtLn] using Bts.nil w.heap.size _, by (repeat (first | with_reducible assumption | with_reducible exact Below.refl _ _ | with_reducible refine Below.drew ?_ | with_reducible refine belowDrewN ?_ _ | ((with_reducible refine Below.setCell ?_ ?_ _); rotate_left; focus (first | omega | (simp; done) | (simp; omega))) | ((with_reducible refine Below.alloc ?_ ?_ _); rotate_left; focus (first | omega | (simp; done) | (simp; omega))) | ((with_reducible refine Below.trans ?_ (Below.mono hb1 ?_)); rotate_left; focus (first | omega | (simp; done) | (simp; omega)))))⟩
    case round =>
      obtain ⟨j, v', hj, rfl, rfl, hbt, hb⟩ := hrel
      have hz := hb.size
      by_cases hlt : j < ms.length
      · obtain ⟨bb, off, k1, n1, s1, ds1, a1, cap1, ms1, rfl, hd, hi1, hin1, c0, c1, c2, c3⟩ := Dat.elem HIN.out HI.out j hlt
        have hbl := World.block_lt_of_cell? w _ c0
        simp only at hbl
        have g0 := (hb.cell (p := ⟨bb, _, none⟩) hbl).trans c0
        have g1 := (hb.cell (p := ⟨bb, _, none⟩) hbl).trans c1
        have g2 := (hb.cell (p := ⟨bb, _, none⟩) hbl).trans c2
        have g3 := (hb.cell (p := ⟨bb, _, none⟩) hbl).trans c3
        clear c0 c1 c2 c3
        have hwt1 := Dat.wtX_pre hd
        simp only [Dat.wt] at hwt1
        have hft := fmtLn_take hd
        have hln := fmtLn_length (ds.take j)
        have hsum := fmt_wt (ds.take j) (Dat.wfL_take HWL.out j)
        have hlj : (ds.take j).length ≤ j := by simp; omega
        have hwf1 := Dat.wfL_get HWL.out hd
        have hfl : (fmtD (.mk k1 n1 s1 ds1)).length ≤ 10000000000 := by
          have h1 := fmt_wt [.mk k1 n1 s1 ds1] ⟨hwf1, trivial⟩
          simp only [fmtL, List.map_cons, List.map_nil, List.sum_cons, List.sum_nil, Dat.wtX, Dat.wt, List.length_singleton] at h1
          omega
        generalize hcur : fmtLn (ds.take j) = cur at *
        have hlds := HL.out
        have hcl : cur.length ≤ 10000000000 := by omega
        obtain ⟨L1, hL1⟩ : ∃ L, L = cur ++ fmtD (.mk k1 n1 s1 ds1) := ⟨_, rfl⟩
        obtain ⟨L2, hL2⟩ : ∃ L, L = L1 ++ [10] := ⟨_, rfl⟩
        rw [← hL1, ← hL2] at hft
        have hn1 : L1.length + 1 ≤ 100000000000000 := by rw [hL1, List.length_append]; omega
        have hbA := hbt.alloc (.cells #[.int .i64 k1, .int .i64 n1, .string s1, .slice a1 ms1.length cap1] 40)
        have HD := Lib.hid hd; clear hd; have HI1 := Lib.hid hi1; clear hi1; have HIN1 := Lib.hid hin1; clear hin1; have HFT := Lib.hid hft; clear hft; have HCUR := Lib.hid hcur; clear hcur; have HL1 := Lib.hid hL1; clear hL1; have HL2 := Lib.hid hL2; clear hL2; have HWF1 := Lib.hid hwf1; clear hwf1; have HLN := Lib.hid hln; clear hln; have HSUM := Lib.hid hsum; clear hsum; have HWT1 := Lib.hid hwt1; clear hwt1; have HFL := Lib.hid hfl; clear hfl; have HCL := Lib.hid hcl; clear hcl; have HLDS := Lib.hid hlds; clear hlds; have HBT := Lib.hid hbt; clear hbt; have HN1 := Lib.hid hn1; clear hn1; have HBA := Lib.hid hbA; clear hbA
        go_wp2_with fail
        refine (writeDatum_calls ds1 k1 n1 s1 a1 cap1 ms1 cur v' w _ HWF1.out (by have := HWT1.out; have := HCL.out; omega) HI1.out HIN1.out HBA.out (by (repeat (first | with_reducible assumption | with_reducible exact Below.refl _ _ | with_reducible refine Below.drew ?_ | with_reducible refine belowDrewN ?_ _ | ((with_reducible refine Below.setCell ?_ ?_ _); rotate_left; focus (first | omega | (simp; done) | (simp; omega))) | ((with_reducible refine Below.alloc ?_ ?_ _); rotate_left; focus (first | omega | (simp; done) | (simp; omega)))))) HT2.out).mono ?_
        rintro e w2 ⟨v2, rfl, h2, hk2⟩
        rw [← HL1.out] at h2
        have hz2 := hk2.size
        simp only [World.size_alloc] at hz2
        have hb2 : Below w.heap.size w w2 := (show Below w.heap.size w _ by (repeat (first | with_reducible assumption | with_reducible exact Below.refl _ _ | with_reducible refine Below.drew ?_ | with_reducible refine belowDrewN ?_ _ | ((with_reducible refine Below.setCell ?_ ?_ _); rotate_left; focus (first | omega | (simp; done) | (simp; omega))) | ((with_reducible refine Below.alloc ?_ ?_ _); rotate_left; focus (first | omega | (simp; done) | (simp; omega)))))).trans hk2.1
        have H2 := Lib.hid h2; clear h2; have HK2 := Lib.hid hk2; clear hk2
        go_wp2_with (at_builtin; refine wpBts_byte rfl _ _ rfl w.heap.size v2 L1 rfl H2.out 10 10 rfl (by first | rfl | (simp [go_sem]; done)) HN1.out (by omega) L2 HL2.out ?_)
        intro v3 w3 h3 hk3
        have H3 := Lib.hid h3; clear h3; have HK3 := Lib.hid hk3; clear hk3
        go_wp2_with fail
        go_roundw
        case rel => exact ⟨j + 1, v3, by omega, by go_num, rfl, by rw [HFT.out]; exact H3.out, hb2.trans HK3.out.1⟩
        case measure => simp [intOf]; omega
      · have hk2 : j = ms.length := by omega
        subst hk2
        rw [HL.out, List.take_length] at hbt
        have hcv := hbt.str
        have HBT := Lib.hid hbt; clear hbt
        go_wp2_with fail
        go_ret
        exact ⟨rfl, by (repeat (first | with_reducible assumption | with_reducible exact Below.refl _ _ | with_reducible refine Below.drew ?_ | with_reducible refine belowDrewN ?_ _ | ((with_reducible refine Below.setCell ?_ ?_ _); rotate_left; focus (first | omega | (simp; done) | (simp; omega))) | ((with_reducible refine Below.alloc ?_ ?_ _); rotate_left; focus (first | omega | (simp; done) | (simp; omega)))))⟩
  | false =>
    have hs : fmtsOf ds = [] := by unfold fmtsOf; rw [if_neg (by rw [hv]; decide)]
    rw [hs]
    have HS := Lib.hid hs; clear hs
    go_enter Tryd.func11, Tryd.ntmps11
    go_wp2_with fail
    refine (iAreData_calls ds a cap ms _ HWL.out hB HI.out (HIN.out.below (by (repeat (first | with_reducible assumption | with_reducible exact Below.refl _ _ | with_reducible refine Below.drew ?_ | with_reducible refine belowDrewN ?_ _ | ((with_reducible refine Below.setCell ?_ ?_ _); rotate_left; focus (first | omega | (simp; done) | (simp; omega))) | ((with_reducible refine Below.alloc ?_ ?_ _); rotate_left; focus (first | omega | (simp; done) | (simp; omega)))))))).mono ?_
    rintro e w1 ⟨rfl, hb1⟩
    rw [hv]
    go_wp2_with fail
    go_ret
    exact ⟨rfl, by (repeat (first | with_reducible assumption | with_reducible exact Below.refl _ _ | with_reducible refine Below.drew ?_ | with_reducible refine belowDrewN ?_ _ | ((with_reducible refine Below.setCell ?_ ?_ _); rotate_left; focus (first | omega | (simp; done) | (simp; omega))) | ((with_reducible refine Below.alloc ?_ ?_ _); rotate_left; focus (first | omega | (simp; done) | (simp; omega))) | ((with_reducible refine Below.trans ?_ (Below.mono hb1 ?_)); rotate_left; focus (first | omega | (simp; done) | (simp; omega)))))⟩
end Go.Proofs.YtghbnehocggnnaaDoor

/-
  Text that is written is read back, in plain terms. No condition.
-/
set_option linter.unusedVariables false
set_option linter.unusedSimpArgs false
namespace Go.Proofs.YtghbnehocggnnaaDoor
open Go.RowKit

theorem takeWhile_app {p : UInt8 → Bool} : ∀ (a t : List UInt8), (∀ b ∈ a, p b = true) → (t = [] ∨ ∃ b r, t = b :: r ∧ p b = false) → (a ++ t).takeWhile p = a ∧ (a ++ t).dropWhile p = t
  | [], t, _, h => by
    rcases h with rfl | ⟨b, r, rfl, hb⟩
    · simp
    · simp [List.takeWhile_cons, List.dropWhile_cons, hb]
  | x :: a, t, ha, h => by
    have hx := ha x (List.mem_cons_self ..)
    have := takeWhile_app a t (fun b hb => ha b (List.mem_cons_of_mem _ hb)) h
    simp only [List.cons_append, List.takeWhile_cons, List.dropWhile_cons, hx, if_true, this.1, this.2]
    exact ⟨trivial, trivial⟩
def Stop (t : List UInt8) : Prop := t = [] ∨ ∃ b r, t = b :: r ∧ endB b = true
theorem Stop.run {t : List UInt8} (h : Stop t) : t = [] ∨ ∃ b r, t = b :: r ∧ runB b = false := by
  rcases h with h | ⟨b, r, h1, h2⟩
  · exact .inl h
  · exact .inr ⟨b, r, h1, by simp [runB, h2]⟩
theorem runB_not {b : UInt8} (h : runB b = false) : b = 32 ∨ b = 10 ∨ b = 9 ∨ b = 40 ∨ b = 41 ∨ b = 34 ∨ b = 59 ∨ b = 39 := by
  have h2 : endB b = true := by simpa [runB] using h
  unfold endB at h2
  simpa only [Bool.or_eq_true, beq_iff_eq] using h2
theorem symB_run {b : UInt8} (h : symB (b.toNat : Int) = true) : runB b = true := by
  cases hr : runB b with
  | true => rfl
  | false => rcases runB_not hr with rfl | rfl | rfl | rfl | rfl | rfl | rfl | rfl <;> exact absurd h (by decide)
theorem dig_run {b : UInt8} (h1 : 48 ≤ b.toNat) (h2 : b.toNat ≤ 57) : runB b = true := by
  cases hr : runB b with
  | true => rfl
  | false => rcases runB_not hr with rfl | rfl | rfl | rfl | rfl | rfl | rfl | rfl <;> simp at h1 h2
theorem decDigits_dig {u : Nat} {b : UInt8} (h : b ∈ Lib.decDigits u) : 48 ≤ b.toNat ∧ b.toNat ≤ 57 := by
  obtain ⟨k, hk⟩ := List.mem_iff_getElem?.1 h
  obtain ⟨d, hd⟩ := Lib.digit_of_decFrom (Lib.decDigits u) 0 u (decFrom_decDigits u) k b hk
  have := digitVal_some hd
  exact ⟨this.1, this.2.1⟩
theorem itoa_run (n : Int) : ∀ b ∈ Lib.itoa n, runB b = true := by
  intro b hb
  unfold Lib.itoa at hb
  split at hb
  · rcases List.mem_cons.1 hb with rfl | hb
    · decide
    · have := decDigits_dig hb; exact dig_run this.1 this.2
  · have := decDigits_dig hb; exact dig_run this.1 this.2
theorem itoa_head (n : Int) : ∃ b r, Lib.itoa n = b :: r ∧ (b = 45 ∧ (∃ c t, r = c :: t ∧ 48 ≤ c.toNat ∧ c.toNat ≤ 57) ∨ 48 ≤ b.toNat ∧ b.toNat ≤ 57) := by
  unfold Lib.itoa
  split
  · refine ⟨45, _, rfl, .inl ⟨rfl, ?_⟩⟩
    cases he : Lib.decDigits n.natAbs with
    | nil => have := decDigits_pos n.natAbs; rw [he] at this; simp at this
    | cons c t => exact ⟨c, t, rfl, decDigits_head he⟩
  · cases he : Lib.decDigits n.toNat with
    | nil => have := decDigits_pos n.toNat; rw [he] at this; simp at this
    | cons c t => exact ⟨c, t, rfl, .inr (decDigits_head he)⟩
theorem byteAt_mem {s : ByteArray} {b : UInt8} (h : b ∈ s.data.toList) : ∃ j, j < s.size ∧ (b.toNat : Int) = byteAt s j := by
  obtain ⟨j, hj, he⟩ := List.mem_iff_getElem.1 h
  refine ⟨j, hj, ?_⟩
  unfold byteAt
  rw [List.getD, List.getElem?_eq_getElem hj, he]; rfl
theorem isSym_parts {s : ByteArray} (h : isSymB s = true) : 1 ≤ s.size ∧ s.size ≤ 16 ∧ digB (byteAt s 0) = false ∧ ¬ (byteAt s 0 = 45 ∧ 1 < s.size ∧ digB (byteAt s 1) = true) ∧ ∀ j, j < s.size → symB (byteAt s j) = true := by
  simp only [isSymB, inB, Bool.and_eq_true, decide_eq_true_eq, Bool.not_eq_true', List.all_eq_true, List.mem_range] at h
  obtain ⟨⟨h1, h2⟩, h3, h4, h5⟩ := h
  refine ⟨by omega, by omega, h3, fun hh => ?_, h5⟩
  simp [hh.1, hh.2.1, hh.2.2] at h4
theorem sym_nonum {s : ByteArray} (h : isSymB s = true) : numOf s.data.toList = none := by
  obtain ⟨h1, h2, h3, h4, h5⟩ := isSym_parts h
  cases hn : numOf s.data.toList with
  | none => rfl
  | some n =>
    exfalso
    have he := (numOf_some hn).1
    obtain ⟨b, r, hb, hc⟩ := itoa_head n
    rw [he] at hb
    have h0 : byteAt s 0 = (b.toNat : Int) := by unfold byteAt; rw [hb]; rfl
    rcases hc with ⟨rfl, c, t, rfl, hd1, hd2⟩ | ⟨hd1, hd2⟩
    · have h1' : byteAt s 1 = (c.toNat : Int) := by unfold byteAt; rw [hb]; rfl
      have hsz : 1 < s.size := by
        have : s.data.toList.length = s.size := rfl
        rw [hb] at this; simp at this; omega
      exact h4 ⟨by rw [h0]; rfl, hsz, by rw [h1', digB_iff]; omega⟩
    · rw [h0] at h3
      have := (digB_iff (b.toNat : Int)).2 (by omega)
      rw [this] at h3; cases h3
theorem atomD_sym {s : ByteArray} (h : isSymB s = true) : atomD s = some (.mk 1 0 s []) := by
  obtain ⟨h1, h2, h3, h4, h5⟩ := isSym_parts h
  unfold atomD
  rw [sym_nonum h]
  have hno : ∀ l, ¬ s.data.toList = (35 : UInt8) :: l := fun l he => by
    have := h5 0 (by omega)
    have h0 : byteAt s 0 = 35 := by unfold byteAt; rw [he]; rfl
    rw [h0] at this
    exact absurd this (by decide)
  simp only [if_neg (hno _), h, if_true]
theorem atomD_num {n : Int} (h1 : -999999999 ≤ n) (h2 : n ≤ 999999999) : atomD ⟨(Lib.itoa n).toArray⟩ = some (.mk 2 n ⟨#[]⟩ []) := by
  unfold atomD
  rw [show ((⟨(Lib.itoa n).toArray⟩ : ByteArray).data.toList) = Lib.itoa n from rfl, numOf_itoa n h1 h2]
theorem num_nohash (l : List UInt8) : numOf ((35 : UInt8) :: l) = none := by
  cases hn : numOf ((35 : UInt8) :: l) with
  | none => rfl
  | some n =>
    exfalso
    have he := (numOf_some hn).1
    obtain ⟨b, r, hb, hc⟩ := itoa_head n
    rw [he] at hb
    simp only [List.cons.injEq] at hb
    rcases hc with ⟨rfl, _⟩ | ⟨h1, h2⟩
    · exact absurd hb.1 (by decide)
    · rw [← hb.1] at h1; exact absurd h1 (by decide)
theorem atomD_tr : atomD ⟨#[35, 116]⟩ = some (.mk 3 1 ⟨#[]⟩ []) := by
  unfold atomD
  rw [show ((⟨#[35, 116]⟩ : ByteArray).data.toList) = 35 :: [116] from rfl, num_nohash]
  rfl
theorem atomD_fa : atomD ⟨#[35, 102]⟩ = some (.mk 3 0 ⟨#[]⟩ []) := by
  unfold atomD
  rw [show ((⟨#[35, 102]⟩ : ByteArray).data.toList) = 35 :: [102] from rfl, num_nohash]
  rfl
theorem ba_empty {s : ByteArray} (h : s.toList.isEmpty = true) : s = ⟨#[]⟩ := by
  rw [ByteArray.toList_eq] at h
  apply ByteArray.ext
  have : s.data.toList = [] := by simpa using h
  exact Array.toList_inj.mp (by rw [this])
/-- an atom's text is read back -/
theorem rd_atom {a t : List UInt8} (hne : a ≠ []) (ha : ∀ b ∈ a, runB b = true) (ht : Stop t) {d : Dat} (hd : atomD ⟨a.toArray⟩ = some d) : rd (a ++ t) = some (d, t) := by
  cases a with
  | nil => exact absurd rfl hne
  | cons b r =>
    have hb := ha b (List.mem_cons_self ..)
    have hnb : blankB b = false := by
      cases hh : blankB b with
      | false => rfl
      | true =>
        unfold blankB at hh
        simp only [Bool.or_eq_true, beq_iff_eq] at hh
        rcases hh with rfl | rfl | rfl <;> exact absurd hb (by decide)
    have hns : ∀ c : UInt8, runB c = false → b ≠ c := fun c hc he => by rw [he, hc] at hb; cases hb
    have hs : skipL ((b :: r) ++ t) = b :: (r ++ t) := skipL_stop hnb (hns 59 (by decide)) _
    rw [rd_cons hs, if_neg (hns 41 (by decide)), if_neg (hns 39 (by decide)), if_neg (hns 34 (by decide)), if_neg (hns 40 (by decide))]
    have h := takeWhile_app (p := runB) (b :: r) t ha ht.run
    unfold atomR
    rw [show b :: (r ++ t) = (b :: r) ++ t from rfl, h.1, h.2, hd]
theorem rdL_skip {l m : List UInt8} (h : skipL l = skipL m) : rdL l = rdL m := by
  cases hs : skipL m with
  | nil => rw [rdL_nil hs, rdL_nil (h.trans hs)]
  | cons b r =>
    by_cases hb : b = 41
    · subst hb; rw [rdL_end hs, rdL_end (h.trans hs)]
    · cases hr : rd m with
      | none => rw [rdL_bad hs hb hr, rdL_bad (h.trans hs) hb ((rd_skip h).trans hr)]
      | some x => obtain ⟨d, r'⟩ := x; rw [rdL_step hs hb hr, rdL_step (h.trans hs) hb ((rd_skip h).trans hr)]
theorem rdA_skip {l m : List UInt8} (h : skipL l = skipL m) : rdA l = rdA m := by
  cases hs : skipL m with
  | nil => rw [rdA_end hs, rdA_end (h.trans hs)]
  | cons b r =>
    cases hr : rd m with
    | none => rw [rdA_bad hs hr, rdA_bad (h.trans hs) ((rd_skip h).trans hr)]
    | some x => obtain ⟨d, r'⟩ := x; rw [rdA_step hs hr, rdA_step (h.trans hs) ((rd_skip h).trans hr)]
/-- the kinds of a datum that is one -/
theorem ok_cases {k n : Int} {s : ByteArray} {ds : List Dat} (h : (Dat.mk k n s ds).ok) :
    (k = 0 ∧ n = 0 ∧ s = ⟨#[]⟩) ∨ (k = 1 ∧ n = 0 ∧ isSymB s = true ∧ ds = []) ∨ (k = 2 ∧ -999999999 ≤ n ∧ n ≤ 999999999 ∧ s = ⟨#[]⟩ ∧ ds = []) ∨ (k = 3 ∧ (n = 0 ∨ n = 1) ∧ s = ⟨#[]⟩ ∧ ds = []) ∨ (k = 4 ∧ n = 0 ∧ strB s = true ∧ ds = []) := by
  have h1 := (Dat.ok_mk.1 h).1
  unfold nodeB at h1
  have hl : ((ds.length : Nat) : Int) = 0 → ds = [] := fun h => List.length_eq_zero_iff.1 (by omega)
  split at h1
  · simp only [Bool.and_eq_true, decide_eq_true_eq] at h1
    exact .inl ⟨by assumption, h1.1, ba_empty h1.2⟩
  · split at h1
    · simp only [Bool.and_eq_true, decide_eq_true_eq] at h1
      exact .inr (.inl ⟨by assumption, h1.1, h1.2.1, hl h1.2.2⟩)
    · split at h1
      · simp only [inB, Bool.and_eq_true, decide_eq_true_eq] at h1
        exact .inr (.inr (.inl ⟨by assumption, h1.1.1, h1.1.2, ba_empty h1.2.1, hl h1.2.2⟩))
      · split at h1
        · simp only [inB, Bool.and_eq_true, decide_eq_true_eq] at h1
          exact .inr (.inr (.inr (.inl ⟨by assumption, by omega, ba_empty h1.2.1, hl h1.2.2⟩)))
        · split at h1
          · simp only [Bool.and_eq_true, decide_eq_true_eq] at h1
            exact .inr (.inr (.inr (.inr ⟨by assumption, h1.1, h1.2.1, hl h1.2.2⟩)))
          · cases h1
theorem strB_parts {s : ByteArray} (h : strB s = true) : s.size ≤ 20 ∧ ∀ b ∈ s.data.toList, noQuote b = true := by
  have h2 : StrOk s := by simpa [strB] using h
  refine ⟨h2.1, fun b hb => ?_⟩
  obtain ⟨j, hj, he⟩ := byteAt_mem hb
  have := (h2.2 j hj).2.2
  unfold noQuote
  rw [bne_iff_ne]
  rintro rfl
  exact this (by rw [← he]; rfl)
/-- what a datum's text begins with -/
theorem fmt_head {d : Dat} (h : d.ok) : ∃ b r, fmtD d = b :: r ∧ blankB b = false ∧ b ≠ 59 ∧ b ≠ 41 := by
  obtain ⟨k, n, s, ds⟩ := d
  have run : ∀ b : UInt8, runB b = true → blankB b = false ∧ b ≠ 59 ∧ b ≠ 41 := fun b hb => by
    refine ⟨?_, ?_, ?_⟩
    · cases hh : blankB b with
      | false => rfl
      | true =>
        unfold blankB at hh
        simp only [Bool.or_eq_true, beq_iff_eq] at hh
        rcases hh with rfl | rfl | rfl <;> exact absurd hb (by decide)
    · rintro rfl; exact absurd hb (by decide)
    · rintro rfl; exact absurd hb (by decide)
  rcases ok_cases h with ⟨rfl, rfl, rfl⟩ | ⟨rfl, rfl, hs, rfl⟩ | ⟨rfl, h1, h2, rfl, rfl⟩ | ⟨rfl, hn, rfl, rfl⟩ | ⟨rfl, rfl, hs, rfl⟩
  · rw [fmtD_list (by decide) (by decide) (by decide) (by decide)]
    exact ⟨40, _, rfl, by decide, by decide, by decide⟩
  · rw [fmtD_sym]
    obtain ⟨h1, h2, h3, h4, h5⟩ := isSym_parts hs
    cases he : s.data.toList with
    | nil => have : s.data.toList.length = s.size := rfl; rw [he] at this; simp at this; omega
    | cons b r =>
      have h0 : byteAt s 0 = (b.toNat : Int) := by unfold byteAt; rw [he]; rfl
      have := run b (symB_run (by rw [← h0]; exact h5 0 (by omega)))
      exact ⟨b, r, rfl, this.1, this.2.1, this.2.2⟩
  · rw [fmtD_num]
    obtain ⟨b, r, he, _⟩ := itoa_head n
    have := run b (itoa_run n b (by rw [he]; simp))
    exact ⟨b, r, he, this.1, this.2.1, this.2.2⟩
  · rcases hn with rfl | rfl
    · rw [fmtD_fa (by decide)]; exact ⟨35, _, rfl, by decide, by decide, by decide⟩
    · rw [fmtD_tr]; exact ⟨35, _, rfl, by decide, by decide, by decide⟩
  · rw [fmtD_str]; exact ⟨34, _, rfl, by decide, by decide, by decide⟩
theorem rd_fmt_mk {k n : Int} {s : ByteArray} {ds : List Dat} (h : (Dat.mk k n s ds).ok) (ih : ∀ t, rdL (joinB [32] (fmtL ds) ++ 41 :: t) = some (ds, t)) (t : List UInt8) (ht : Stop t) :
    rd (fmtD (.mk k n s ds) ++ t) = some (.mk k n s ds, t) := by
  rcases ok_cases h with ⟨rfl, rfl, rfl⟩ | ⟨rfl, rfl, hs, rfl⟩ | ⟨rfl, h1, h2, rfl, rfl⟩ | ⟨rfl, hn, rfl, rfl⟩ | ⟨rfl, rfl, hs, rfl⟩
  · rw [fmtD_list (by decide) (by decide) (by decide) (by decide)]
    have he : 40 :: (joinB [32] (fmtL ds) ++ [41]) ++ t = 40 :: (joinB [32] (fmtL ds) ++ 41 :: t) := by simp
    rw [he, rd_cons (skipL_stop (by decide) (by decide) _), if_neg (by decide), if_neg (by decide), if_neg (by decide), if_pos rfl, ih t]
  · rw [fmtD_sym]
    obtain ⟨h1, h2, h3, h4, h5⟩ := isSym_parts hs
    refine rd_atom (fun he => ?_) (fun b hb => ?_) ht (by rw [baId]; exact atomD_sym hs)
    · have : s.data.toList.length = s.size := rfl; rw [he] at this; simp at this; omega
    · obtain ⟨j, hj, he⟩ := byteAt_mem hb
      exact symB_run (by rw [he]; exact h5 j hj)
  · rw [fmtD_num]
    refine rd_atom (fun he => ?_) (itoa_run n) ht (atomD_num h1 h2)
    obtain ⟨b, r, hb, _⟩ := itoa_head n
    rw [hb] at he; cases he
  · rcases hn with rfl | rfl
    · rw [fmtD_fa (by decide)]
      exact rd_atom (by simp) (fun b hb => by simp at hb; rcases hb with rfl | rfl <;> decide) ht atomD_fa
    · rw [fmtD_tr]
      exact rd_atom (by simp) (fun b hb => by simp at hb; rcases hb with rfl | rfl <;> decide) ht atomD_tr
  · rw [fmtD_str]
    obtain ⟨h1, h2⟩ := strB_parts hs
    have he : 34 :: (s.data.toList ++ [34]) ++ t = 34 :: (s.data.toList ++ 34 :: t) := by simp
    rw [he, rd_cons (skipL_stop (by decide) (by decide) _), if_neg (by decide), if_neg (by decide), if_pos rfl]
    have hw := takeWhile_app (p := noQuote) s.data.toList (34 :: t) h2 (.inr ⟨34, t, rfl, by decide⟩)
    unfold strR
    rw [hw.1, hw.2]
    simp only [baId, hs, if_true]
theorem joinB_cons2 (sep a b : List UInt8) (r : List (List UInt8)) : joinB sep (a :: b :: r) = a ++ sep ++ joinB sep (b :: r) := by
  rw [joinB, if_neg (by simp)]
theorem rd_fmt : ∀ ds : List Dat, (∀ d ∈ ds, d.ok) → (∀ t, rdL (joinB [32] (fmtL ds) ++ 41 :: t) = some (ds, t)) ∧ (∀ d ∈ ds, ∀ t, Stop t → rd (fmtD d ++ t) = some (d, t)) := by
  refine Dat.inductL fun ds ih hok => ?_
  have hall : ∀ d ∈ ds, ∀ t, Stop t → rd (fmtD d ++ t) = some (d, t) := by
    intro d hd t ht
    obtain ⟨k, n, s, es⟩ := d
    have hd1 := hok _ hd
    exact rd_fmt_mk hd1 (ih k n s es hd (fun e he => (Dat.ok_mk.1 hd1).2 e he)).1 t ht
  refine ⟨?_, hall⟩
  clear ih
  induction ds with
  | nil =>
    intro t
    exact rdL_end (skipL_stop (by decide) (by decide) _)
  | cons d r ihr =>
    intro t
    obtain ⟨b, u, hb, hb1, hb2, hb3⟩ := fmt_head (hok d (List.mem_cons_self ..))
    have hr := ihr (fun e he => hok e (List.mem_cons_of_mem _ he)) (fun e he => hall e (List.mem_cons_of_mem _ he))
    cases r with
    | nil =>
      simp only [fmtL, joinB, List.isEmpty_nil, if_true]
      have h1 := hall d (List.mem_cons_self ..) (41 :: t) (.inr ⟨41, t, rfl, by decide⟩)
      rw [rdL_step (b := b) (r := u ++ 41 :: t) (by rw [hb]; exact skipL_stop hb1 hb2 _) hb3 h1]
      rw [rdL_end (skipL_stop (by decide) (by decide) _)]
      rfl
    | cons d2 r2 =>
      have hj : joinB [32] (fmtL (d :: d2 :: r2)) ++ 41 :: t = fmtD d ++ 32 :: (joinB [32] (fmtL (d2 :: r2)) ++ 41 :: t) := by
        simp only [fmtL]
        rw [joinB_cons2]
        simp
      rw [hj]
      have h1 := hall d (List.mem_cons_self ..) (32 :: (joinB [32] (fmtL (d2 :: r2)) ++ 41 :: t)) (.inr ⟨32, _, rfl, by decide⟩)
      rw [rdL_step (b := b) (r := u ++ 32 :: (joinB [32] (fmtL (d2 :: r2)) ++ 41 :: t)) (by rw [hb]; exact skipL_stop hb1 hb2 _) hb3 h1]
      rw [rdL_skip (l := 32 :: (joinB [32] (fmtL (d2 :: r2)) ++ 41 :: t)) (m := joinB [32] (fmtL (d2 :: r2)) ++ 41 :: t) (skipL_blank (by decide) _), hr t]
      rfl
theorem rdA_fmt : ∀ ds : List Dat, (∀ d ∈ ds, d.ok) → rdA (fmtLn ds) = some ds
  | [], _ => rdA_end skipL_nil
  | d :: r, h => by
    obtain ⟨b, u, hb, hb1, hb2, hb3⟩ := fmt_head (h d (List.mem_cons_self ..))
    have h1 := (rd_fmt (d :: r) h).2 d (List.mem_cons_self ..) (10 :: fmtLn r) (.inr ⟨10, _, rfl, by decide⟩)
    rw [fmtLn, rdA_step (b := b) (r := u ++ 10 :: fmtLn r) (by rw [hb]; exact skipL_stop hb1 hb2 _) h1]
    rw [rdA_skip (l := 10 :: fmtLn r) (m := fmtLn r) (skipL_blank (by decide) _), rdA_fmt r (fun e he => h e (List.mem_cons_of_mem _ he))]
    rfl
theorem fmt_small : ∀ ds : List Dat, (∀ d ∈ ds, d.ok) → ((fmtL ds).map fun x => x.length + 1).sum ≤ 23 * Dat.countL ds := by
  refine Dat.inductL fun ds ih hok => ?_
  induction ds with
  | nil => simp [fmtL]
  | cons d r ihr =>
    obtain ⟨k, n, s, es⟩ := d
    have hd := hok _ (List.mem_cons_self ..)
    have h1 := ih k n s es (List.mem_cons_self ..) (fun e he => (Dat.ok_mk.1 hd).2 e he)
    have h2 := ihr (fun k n s es hm => ih k n s es (List.mem_cons_of_mem _ hm)) (fun e he => hok e (List.mem_cons_of_mem _ he))
    have h3 : (fmtD (.mk k n s es)).length ≤ 22 + 23 * Dat.countL es := by
      rcases ok_cases hd with ⟨rfl, rfl, rfl⟩ | ⟨rfl, rfl, hs, rfl⟩ | ⟨rfl, h1, h2, rfl, rfl⟩ | ⟨rfl, hn, rfl, rfl⟩ | ⟨rfl, rfl, hs, rfl⟩
      · rw [fmtD_list (by decide) (by decide) (by decide) (by decide)]
        have hj := joinB_length [32] (fmtL es)
        simp only [List.length_singleton] at hj
        simp only [List.length_cons, List.length_append, List.length_nil]
        omega
      · rw [fmtD_sym]
        have := isSym_parts hs
        have hsz : s.data.toList.length = s.size := rfl
        omega
      · rw [fmtD_num]
        have := num_size (numOf_itoa n (by assumption) (by assumption))
        omega
      · rcases hn with rfl | rfl
        · rw [fmtD_fa (by decide)]; simp only [List.length_cons, List.length_nil]; omega
        · rw [fmtD_tr]; simp only [List.length_cons, List.length_nil]; omega
      · rw [fmtD_str]
        have := (strB_parts hs).1
        have hsz : s.data.toList.length = s.size := rfl
        simp only [List.length_cons, List.length_append, List.length_nil]
        omega
    simp only [fmtL, List.map_cons, List.sum_cons, Dat.countL, Dat.count]
    omega
/-- what is written of data is read back as those data -/
theorem parse_fmt {ds : List Dat} (h : areB ds = true) : parseB ⟨(fmtLn ds).toArray⟩ = some ds := by
  have h2 : AreP ds := by simpa [areB] using h
  have hs := fmt_small ds h2.2.2
  have hl := fmtLn_length ds
  have hsz : (⟨(fmtLn ds).toArray⟩ : ByteArray).size = (fmtLn ds).length := by simp [ByteArray.size]
  refine parse_yes (by rw [hsz, hl]; have := h2.1; omega) ?_ h
  exact rdA_fmt ds h2.2.2
end Go.Proofs.YtghbnehocggnnaaDoor

/-
  Walks: blanks and remarks passed over, both sides. No condition.
-/
set_option linter.unusedVariables false
set_option linter.unusedSimpArgs false
set_option maxRecDepth 100000
namespace Go.Proofs.YtghbnehocggnnaaDoor
open Go.RowKit

/-- a reader at block pb: its text, its place, its third field -/
structure RdAt (pb : Nat) (s : ByteArray) (p : Nat) (x : Value) (w : World) : Prop where
  c0 : w.cell? ⟨pb, 0, none⟩ = some (.string s)
  c1 : w.cell? ⟨pb, 1, none⟩ = some (.int .i64 p)
  c2 : w.cell? ⟨pb, 2, none⟩ = some x
  f1 : w.frozen? ⟨pb, 1, none⟩ = false
  f2 : w.frozen? ⟨pb, 2, none⟩ = false
theorem RdAt.lt {pb : Nat} {s : ByteArray} {p : Nat} {x : Value} {w : World} (h : RdAt pb s p x w) : pb < w.heap.size := World.block_lt_of_cell? w _ h.c0
theorem RdAt.of {pb : Nat} {s : ByteArray} {p : Nat} {x : Value} {w w' : World} (h : RdAt pb s p x w) (hk : w'.heap[pb]? = w.heap[pb]?) : RdAt pb s p x w' :=
  ⟨(World.cell?_of_block hk).trans h.c0, (World.cell?_of_block hk).trans h.c1, (World.cell?_of_block hk).trans h.c2, (World.frozen?_of_block hk).trans h.f1, (World.frozen?_of_block hk).trans h.f2⟩
theorem RdAt.below {pb B : Nat} {s : ByteArray} {p : Nat} {x : Value} {w w' : World} (h : RdAt pb s p x w) (hb : Below B w w') (hp : pb < B) : RdAt pb s p x w' := h.of (hb.block pb hp)
theorem RdAt.set1 {pb : Nat} {s : ByteArray} {p : Nat} {x : Value} {w : World} (h : RdAt pb s p x w) (q : Nat) : RdAt pb s q x (w.setCell ⟨pb, 1, none⟩ (.int .i64 q)) := by
  have := h.lt
  obtain ⟨c0, c1, c2, f1, f2⟩ := h
  constructor <;> simp [go_sem, c0, c1, c2, f1, f2]
theorem RdAt.set2 {pb : Nat} {s : ByteArray} {p : Nat} {x : Value} {w : World} (h : RdAt pb s p x w) (y : Value) : RdAt pb s p y (w.setCell ⟨pb, 2, none⟩ y) := by
  have := h.lt
  obtain ⟨c0, c1, c2, f1, f2⟩ := h
  constructor <;> simp [go_sem, c0, c1, c2, f1, f2]
theorem RdAt.drewN {pb : Nat} {s : ByteArray} {p : Nat} {x : Value} {w : World} (h : RdAt pb s p x w) (n : Nat) : RdAt pb s p x (w.drewN n) := h.of rfl
theorem RdAt.move {pb : Nat} {s : ByteArray} {p : Nat} {x : Value} {w : World} (h : RdAt pb s p x w) {q : Nat} {y : Int} (hy : y = (q : Int)) : RdAt pb s q x (w.setCell ⟨pb, 1, none⟩ (.int .i64 y)) := by
  subst hy; exact h.set1 q
theorem OnlyIn.put {pb : Nat} {w a : World} (h : OnlyIn pb (pb + 1) w a) (k : Nat) (v : Value) : OnlyIn pb (pb + 1) w (a.setCell ⟨pb, k, none⟩ v) := h.set _ _ (Nat.le_refl _) (Nat.lt_succ_self _)
theorem byteEq (b c : UInt8) : ((b.toNat : Int) == (c.toNat : Int)) = (b == c) := by
  cases h : b == c with
  | true => rw [beq_iff_eq] at h; subst h; simp
  | false =>
    rw [beq_eq_false_iff_ne] at h ⊢
    intro h2
    exact h (UInt8.toNat_inj.1 (by omega))
theorem byteNe (b c : UInt8) : ((b.toNat : Int) != (c.toNat : Int)) = (b != c) := by
  unfold bne; rw [byteEq]
theorem drop_at {s : ByteArray} {p : Nat} (h : p < s.size) : s.data.toList.drop p = (s[p]'h) :: s.data.toList.drop (p + 1) := by
  have h' : p < s.data.toList.length := by simpa using h
  rw [List.drop_eq_getElem_cons h']; rfl
theorem drop_out {s : ByteArray} {p : Nat} (h : s.size ≤ p) : s.data.toList.drop p = [] := List.drop_of_length_le h
/-- what passing over leaves -/
def Skp (pb : Nat) (s : ByteArray) (a : Nat) (x : Value) (w : World) (e : Ending) (w' : World) : Prop :=
  ∃ p : Nat, e = .returned (.tuple #[]) ∧ s.data.toList.drop p = skipL (s.data.toList.drop a) ∧ a ≤ p ∧ p ≤ max a s.size ∧ RdAt pb s p x w' ∧ OnlyIn pb (pb + 1) w w'
theorem endsRun_calls (b : UInt8) (w : World) : Calls Tryd.prog 53 #[.int .u8 (b.toNat : Int)] w (RetEq (.bool (endB b)) w) := by
  have e32 : ((b.toNat : Int) == 32) = (b == 32) := byteEq b 32
  have e10 : ((b.toNat : Int) == 10) = (b == 10) := byteEq b 10
  have e9 : ((b.toNat : Int) == 9) = (b == 9) := byteEq b 9
  have e40 : ((b.toNat : Int) == 40) = (b == 40) := byteEq b 40
  have e41 : ((b.toNat : Int) == 41) = (b == 41) := byteEq b 41
  have e34 : ((b.toNat : Int) == 34) = (b == 34) := byteEq b 34
  have e59 : ((b.toNat : Int) == 59) = (b == 59) := byteEq b 59
  have e39 : ((b.toNat : Int) == 39) = (b == 39) := byteEq b 39
  have he : endB b = (b == 32 || (b == 10 || (b == 9 || (b == 40 || (b == 41 || (b == 34 || (b == 59 || b == 39))))))) := rfl
  rw [← e32, ← e10, ← e9, ← e40, ← e41, ← e34, ← e59, ← e39] at he
  rw [he]
  clear he e32 e10 e9 e40 e41 e34 e59 e39
  generalize (b.toNat : Int) = n
  go_enter Tryd.func53, Tryd.ntmps53
  go_wp2
  all_goals go_ret
  all_goals exact ⟨ret_b (by simp_all), rfl⟩
set_option maxHeartbeats 1000000 in
theorem iSkip_calls (pb : Nat) (s : ByteArray) (a : Nat) (x : Value) (w : World) (h : RdAt pb s a x w) (hs : s.size ≤ 1000000000) (ha : a ≤ s.size) :
    Calls Tryd.prog 28 #[.pointer (some ⟨pb, 0, none⟩)] w (Skp pb s a x w) := by
  have H := Lib.hid h; clear h
  go_enter Tryd.func28, Tryd.ntmps28
  go_wp2_with fail
  go_loopg [] (s.size - a) (fun k wr => ∃ p : Nat, k = s.size - p ∧ skipL (s.data.toList.drop a) = skipL (s.data.toList.drop p) ∧ a ≤ p ∧ p ≤ s.size ∧ RdAt pb s p x wr ∧ OnlyIn pb (pb + 1) w wr)
  case atStart => exact ⟨a, rfl, rfl, Nat.le_refl _, ha, H.out, OnlyIn.refl _ _ _⟩
  case round =>
    obtain ⟨p, rfl, hsk, hap, hps, hr, ho⟩ := hrel
    obtain ⟨c0, c1, c2, f1, f2⟩ := id hr
    by_cases hlt : p < s.size
    · have hd := drop_at hlt
      have e32 : (((s[p]'hlt).toNat : Int) == 32) = (s[p]'hlt == 32) := byteEq _ 32
      have e10 : (((s[p]'hlt).toNat : Int) == 10) = (s[p]'hlt == 10) := byteEq _ 10
      have e9 : (((s[p]'hlt).toNat : Int) == 9) = (s[p]'hlt == 9) := byteEq _ 9
      have e59 : (((s[p]'hlt).toNat : Int) == 59) = (s[p]'hlt == 59) := byteEq _ 59
      rw [hd] at hsk
      generalize hB : s[p]'hlt = b at *
      cases hbl : blankB b with
      | true =>
        rw [skipL_blank hbl] at hsk
        have HD := Lib.hid hd; clear hd; have HSK := Lib.hid hsk; clear hsk; have HR := Lib.hid hr; clear hr; have HO := Lib.hid ho; clear ho
        have h3 : b = 32 ∨ b = 10 ∨ b = 9 := by simpa [blankB] using hbl
        rcases h3 with rfl | rfl | rfl
        all_goals
          go_wp2_with fail
          go_quiet (fail)
          go_wp2_with fail
          go_quiet (fail)
          go_wp2_with fail
          go_roundg (s.size - (p + 1))
          case measure => omega
          case rel => exact ⟨p + 1, rfl, HSK.out, by omega, by omega, (HR.out.drewN _).move (by omega), (HO.out.drewN _).put _ _⟩
      | false =>
        have n32 : (b == 32) = false := by
          unfold blankB at hbl; simp only [Bool.or_eq_false_iff] at hbl; exact hbl.1
        have n10 : (b == 10) = false := by
          unfold blankB at hbl; simp only [Bool.or_eq_false_iff] at hbl; exact hbl.2.1
        have n9 : (b == 9) = false := by
          unfold blankB at hbl; simp only [Bool.or_eq_false_iff] at hbl; exact hbl.2.2
        rw [n32] at e32
        rw [n10] at e10
        rw [n9] at e9
        by_cases h59 : b = 59
        · subst h59
          rw [skipL_semi] at hsk
          have hd2 : skipC (s.data.toList.drop p) = skipC (s.data.toList.drop (p + 1)) := by rw [hd]; exact skipC_step (by decide) _
          rw [← hd2] at hsk
          clear n32 n10 n9
          have HD := Lib.hid hd; clear hd; have HD2 := Lib.hid hd2; clear hd2; have HSK := Lib.hid hsk; clear hsk; have HR := Lib.hid hr; clear hr; have HO := Lib.hid ho; clear ho; have HBL := Lib.hid hbl; clear hbl
          go_wp2_with fail
          go_quiet (fail)
          go_wp2_with fail
          go_quiet (fail)
          go_wp2_with fail
          generalize hWO : wr = wo at *
          go_loopg [] (s.size - p) (fun k wr => ∃ q : Nat, k = s.size - q ∧ skipL (s.data.toList.drop a) = skipC (s.data.toList.drop q) ∧ p ≤ q ∧ q ≤ s.size ∧ RdAt pb s q x wr ∧ OnlyIn pb (pb + 1) w wr)
          case atStart => exact ⟨p, rfl, HSK.out, Nat.le_refl _, by omega, HR.out.drewN _, HO.out.drewN _⟩
          case round =>
            obtain ⟨q, rfl, hsq, hpq, hqs, hrq, hoq⟩ := hrel
            clear c0 c1 c2 f1 f2
            obtain ⟨c0, c1, c2, f1, f2⟩ := id hrq
            have HSQ := Lib.hid hsq; clear hsq
            by_cases hq : q < s.size
            · have hdq := drop_at hq
              have e10 : (((s[q]'hq).toNat : Int) != 10) = (s[q]'hq != 10) := byteNe _ 10
              by_cases h10 : s[q]'hq = 10
              · have hne : (s[q]'hq != 10) = false := by simp [h10]
                rw [hne] at e10
                have hqp : q ≠ p := by
                  intro he
                  subst he
                  have h1 := hdq.symm.trans HD.out
                  simp only [List.cons.injEq] at h1
                  rw [h1.1] at h10
                  cases h10
                have hfin : skipL (s.data.toList.drop a) = skipL (s.data.toList.drop q) := by rw [HSQ.out, hdq, h10, skipC_line]
                clear h10 hne
                have HDQ := Lib.hid hdq; clear hdq; have HRQ := Lib.hid hrq; clear hrq; have HOQ := Lib.hid hoq; clear hoq; have HFIN := Lib.hid hfin; clear hfin
                go_wp2_with fail
                go_quiet (fail)
                go_wp2_with fail
                go_roundg (s.size - q)
                case measure => omega
                case rel => exact ⟨q, rfl, HFIN.out, by omega, by omega, HRQ.out.drewN _, HOQ.out.drewN _⟩
              · have hne : (s[q]'hq != 10) = true := by simp [h10]
                rw [hne] at e10
                have hfin : skipL (s.data.toList.drop a) = skipC (s.data.toList.drop (q + 1)) := by rw [HSQ.out, hdq, skipC_step h10]
                clear h10 hne
                have HDQ := Lib.hid hdq; clear hdq; have HRQ := Lib.hid hrq; clear hrq; have HOQ := Lib.hid hoq; clear hoq; have HFIN := Lib.hid hfin; clear hfin
                go_wp2_with fail
                go_quiet (fail)
                go_wp2_with fail
                go_roundg (s.size - (q + 1))
                case measure => omega
                case rel => exact ⟨q + 1, rfl, HFIN.out, by omega, by omega, (HRQ.out.drewN _).move (by omega), (HOQ.out.drewN _).put _ _⟩
            · have hqe : q = s.size := by omega
              subst hqe
              have hfin : skipL (s.data.toList.drop a) = skipL (s.data.toList.drop s.size) := by rw [HSQ.out, drop_out (Nat.le_refl _), skipL_nil, skipC_nil]
              have HRQ := Lib.hid hrq; clear hrq; have HOQ := Lib.hid hoq; clear hoq; have HFIN := Lib.hid hfin; clear hfin
              go_wp2_with fail
              go_quiet (fail)
              go_wp2_with fail
              go_roundg (s.size - s.size)
              case measure => omega
              case rel => exact ⟨s.size, rfl, HFIN.out, by omega, by omega, HRQ.out.drewN _, HOQ.out.drewN _⟩
        · have n59 : (b == 59) = false := by simp [h59]
          rw [n59] at e59
          rw [skipL_stop hbl h59] at hsk
          have hfin : s.data.toList.drop p = skipL (s.data.toList.drop a) := by rw [hsk, hd]
          clear n32 n10 n9 n59 h59
          have HD := Lib.hid hd; clear hd; have HSK := Lib.hid hsk; clear hsk; have HR := Lib.hid hr; clear hr; have HO := Lib.hid ho; clear ho; have HBL := Lib.hid hbl; clear hbl; have HFIN := Lib.hid hfin; clear hfin
          go_wp2_with fail
          go_quiet (fail)
          go_wp2_with fail
          go_quiet (fail)
          go_wp2_with fail
          refine bodyPost_ret (v := .tuple #[]) (by simp [results, Tryd.results28, go_sem]) rfl ?_
          exact ⟨p, rfl, HFIN.out, hap, by omega, (HR.out.drewN _), (HO.out.drewN _)⟩
    · have hp : p = s.size := by omega
      subst hp
      have HSK := Lib.hid hsk; clear hsk; have HR := Lib.hid hr; clear hr; have HO := Lib.hid ho; clear ho
      go_wp2_with fail
      go_quiet (fail)
      go_wp2_with fail
      refine bodyPost_ret (v := .tuple #[]) (by simp [results, Tryd.results28, go_sem]) rfl ?_
      exact ⟨_, rfl, by rw [HSK.out, drop_out (Nat.le_refl _)]; exact skipL_nil.symm, hap, by omega, HR.out.drewN _, HO.out.drewN _⟩
end Go.Proofs.YtghbnehocggnnaaDoor

/-
  Walks: blanks and remarks passed over, the reference's side. No condition. (printed by wip/tools/mkpd4.py out of PD3)
-/
set_option linter.unusedVariables false
set_option linter.unusedSimpArgs false
set_option maxRecDepth 100000
namespace Go.Proofs.YtghbnehocggnnaaDoor
open Go.RowKit

theorem RetEq.same {P : Program} {f : FuncId} {args : Array Value} {w : World} {v : Value} (h : Calls P f args w (RetEq v w)) : Calls P f args w (fun e w' => e = .returned v ∧ w' = w) :=
  h.mono fun _ _ h => ⟨h.1, h.2.symm⟩
end Go.Proofs.YtghbnehocggnnaaDoor

/-
  Walks: the number that a text is, the reference's side. No condition. (printed by wip/tools/mkpn2.py)
-/
set_option linter.unusedVariables false
set_option linter.unusedSimpArgs false
set_option maxRecDepth 100000
namespace Go.Proofs.YtghbnehocggnnaaDoor
open Go.RowKit

theorem decFrom_none_app : ∀ (l r : List UInt8) (acc : Nat), Lib.decFrom acc l = none → Lib.decFrom acc (l ++ r) = none
  | [], r, acc, h => by simp [Lib.decFrom] at h
  | b :: l, r, acc, h => by
    simp only [List.cons_append, Lib.decFrom] at h ⊢
    cases hd : Lib.digitVal b with
    | none => rfl
    | some d => simp only [hd] at h ⊢; exact decFrom_none_app l r _ h
theorem decFrom_none_of {l : List UInt8} {k acc : Nat} (h : Lib.decFrom acc (l.take k) = none) : Lib.decFrom acc l = none := by
  rw [← List.take_append_drop k l]; exact decFrom_none_app _ _ _ h
/-- what ParseNumber hands back -/
def numV : Option Int → Value
  | some n => .tuple #[.int .i64 n, .bool true]
  | none => .tuple #[.int .i64 0, .bool false]
end Go.Proofs.YtghbnehocggnnaaDoor

/-
  The library's contracts on strconv.Atoi, laid at this program (written by the kit's lay-shelf.mjs and lay-plain.mjs at one seat: its numbers; wip/tools/shelf.py). Conditions: those told with each.
-/
namespace Go.Proofs
open Go.Shelf
def Tryd.lays172_ren : Go.Shelf.Ren := ⟨fun | 172 => 79 | 244 => 84 | 245 => 85 | 247 => 91 | 279 => 92 | 280 => 93 | 281 => 94 | 282 => 95 | 287 => 98 | 316 => 99 | 171 => 49 | 205 => 100 | 321 => 101 | 322 => 102 | 243 => 72 | 246 => 78 | 283 => 80 | 284 => 81 | 285 => 82 | 286 => 83 | 129 => 87 | 317 => 86 | 318 => 88 | 319 => 89 | 320 => 90 | 337 => 96 | 338 => 97 | n => n, fun | 9 => 9 | 3 => 3 | 75 => 94 | 76 => 95 | 4 => 4 | 5 => 5 | 167 => 109 | 37 => 31 | 0 => 0 | 85 => 110 | 2 => 2 | 168 => 112 | 53 => 90 | 175 => 116 | 46 => 89 | 210 => 120 | 127 => 125 | 145 => 128 | 143 => 126 | 21 => 21 | 171 => 97 | 173 => 100 | 212 => 104 | 51 => 105 | 20 => 20 | 213 => 106 | 232 => 122 | 233 => 123 | 80 => 129 | n => n, fun | 15 => 1 | 16 => 2 | 17 => 0 | 18 => 3 | 19 => 4 | n => n⟩
theorem Tryd.lays172 : Go.Proofs.Lays.n172 Tryd.prog Tryd.lays172_ren := {
  mixed := by kernel_rfl
  f129 := Tryd.func87.trans (congrArg some (by kernel_rfl))
  f171 := Tryd.func49.trans (congrArg some (by kernel_rfl))
  f172 := Tryd.func79.trans (congrArg some (by kernel_rfl))
  f205 := Tryd.func100.trans (congrArg some (by kernel_rfl))
  f243 := Tryd.func72.trans (congrArg some (by kernel_rfl))
  f244 := Tryd.func84.trans (congrArg some (by kernel_rfl))
  f245 := Tryd.func85.trans (congrArg some (by kernel_rfl))
  f246 := Tryd.func78.trans (congrArg some (by kernel_rfl))
  f247 := Tryd.func91.trans (congrArg some (by kernel_rfl))
  f279 := Tryd.func92.trans (congrArg some (by kernel_rfl))
  f280 := Tryd.func93.trans (congrArg some (by kernel_rfl))
  f281 := Tryd.func94.trans (congrArg some (by kernel_rfl))
  f282 := Tryd.func95.trans (congrArg some (by kernel_rfl))
  f283 := Tryd.func80.trans (congrArg some (by kernel_rfl))
  f284 := Tryd.func81.trans (congrArg some (by kernel_rfl))
  f285 := Tryd.func82.trans (congrArg some (by kernel_rfl))
  f286 := Tryd.func83.trans (congrArg some (by kernel_rfl))
  f287 := Tryd.func98.trans (congrArg some (by kernel_rfl))
  f316 := Tryd.func99.trans (congrArg some (by kernel_rfl))
  f317 := Tryd.func86.trans (congrArg some (by kernel_rfl))
  f318 := Tryd.func88.trans (congrArg some (by kernel_rfl))
  f319 := Tryd.func89.trans (congrArg some (by kernel_rfl))
  f320 := Tryd.func90.trans (congrArg some (by kernel_rfl))
  f321 := Tryd.func101.trans (congrArg some (by kernel_rfl))
  f322 := Tryd.func102.trans (congrArg some (by kernel_rfl))
  f337 := Tryd.func96.trans (congrArg some (by kernel_rfl))
  f338 := Tryd.func97.trans (congrArg some (by kernel_rfl))
  t0 := Tryd.underlying0
  a0 := Tryd.isAgg0
  z0 := Tryd.sizeOf0
  v0 := Tryd.zeroValue0
  t2 := Tryd.underlying2
  a2 := Tryd.isAgg2
  z2 := Tryd.sizeOf2
  v2 := Tryd.zeroValue2
  t3 := Tryd.underlying3
  a3 := Tryd.isAgg3
  z3 := Tryd.sizeOf3
  v3 := Tryd.zeroValue3
  t4 := Tryd.underlying4
  a4 := Tryd.isAgg4
  z4 := Tryd.sizeOf4
  v4 := Tryd.zeroValue4
  t5 := Tryd.underlying5
  a5 := Tryd.isAgg5
  z5 := Tryd.sizeOf5
  v5 := Tryd.zeroValue5
  t9 := Tryd.underlying9
  a9 := Tryd.isAgg9
  z9 := Tryd.sizeOf9
  v9 := Tryd.zeroValue9
  t20 := Tryd.underlying20
  a20 := Tryd.isAgg20
  z20 := Tryd.sizeOf20
  v20 := Tryd.zeroValue20
  t21 := Tryd.underlying21
  a21 := Tryd.isAgg21
  z21 := Tryd.sizeOf21
  v21 := Tryd.zeroValue21
  t37 := Tryd.underlying31
  a37 := Tryd.isAgg31
  z37 := Tryd.sizeOf31
  v37 := Tryd.zeroValue31
  t46 := Tryd.underlying89
  a46 := Tryd.isAgg89
  z46 := Tryd.sizeOf89
  v46 := Tryd.zeroValue89
  t51 := Tryd.underlying105
  a51 := Tryd.isAgg105
  z51 := Tryd.sizeOf105
  v51 := Tryd.zeroValue105
  t53 := Tryd.underlying90
  a53 := Tryd.isAgg90
  z53 := Tryd.sizeOf90
  v53 := Tryd.zeroValue90
  t75 := Tryd.underlying94
  a75 := Tryd.isAgg94
  z75 := Tryd.sizeOf94
  v75 := Tryd.zeroValue94
  t76 := Tryd.underlying95
  a76 := Tryd.isAgg95
  z76 := Tryd.sizeOf95
  v76 := Tryd.zeroValue95
  t85 := Tryd.underlying110
  a85 := Tryd.isAgg110
  z85 := Tryd.sizeOf110
  v85 := Tryd.zeroValue110
  t127 := Tryd.underlying125
  a127 := Tryd.isAgg125
  z127 := Tryd.sizeOf125
  v127 := Tryd.zeroValue125
  t143 := Tryd.underlying126
  a143 := Tryd.isAgg126
  z143 := Tryd.sizeOf126
  v143 := Tryd.zeroValue126
  t145 := Tryd.underlying128
  a145 := Tryd.isAgg128
  z145 := Tryd.sizeOf128
  v145 := Tryd.zeroValue128
  t167 := Tryd.underlying109
  a167 := Tryd.isAgg109
  z167 := Tryd.sizeOf109
  v167 := Tryd.zeroValue109
  t168 := Tryd.underlying112
  a168 := Tryd.isAgg112
  z168 := Tryd.sizeOf112
  v168 := Tryd.zeroValue112
  t171 := Tryd.underlying97
  a171 := Tryd.isAgg97
  z171 := Tryd.sizeOf97
  v171 := Tryd.zeroValue97
  t173 := Tryd.underlying100
  a173 := Tryd.isAgg100
  z173 := Tryd.sizeOf100
  v173 := Tryd.zeroValue100
  t175 := Tryd.underlying116
  a175 := Tryd.isAgg116
  z175 := Tryd.sizeOf116
  v175 := Tryd.zeroValue116
  t210 := Tryd.underlying120
  a210 := Tryd.isAgg120
  z210 := Tryd.sizeOf120
  v210 := Tryd.zeroValue120
  t212 := Tryd.underlying104
  a212 := Tryd.isAgg104
  z212 := Tryd.sizeOf104
  v212 := Tryd.zeroValue104
  t213 := Tryd.underlying106
  a213 := Tryd.isAgg106
  z213 := Tryd.sizeOf106
  t232 := Tryd.underlying122
  a232 := Tryd.isAgg122
  z232 := Tryd.sizeOf122
  v232 := Tryd.zeroValue122
  t233 := Tryd.underlying123
  a233 := Tryd.isAgg123
  z233 := Tryd.sizeOf123
  v233 := Tryd.zeroValue123
  g15 := by kernel_rfl
  g16 := by kernel_rfl
  g17 := by kernel_rfl
  g18 := by kernel_rfl
  g19 := by kernel_rfl }
open Go.RowKit in
/-- strconv.Atoi: "Atoi is equivalent to ParseInt(s, 10, 0), converted to type int.": AT A DECIMAL NUMERAL OF AT MOST 18 BYTES: its value, and a nil error. The world behind the call: the one new row that the library's '[]byte(s)' lays. (LAID: no walk: one application.) -/
theorem Tryd.strconv_Atoi (s : ByteArray) (n : Int) (hl : s.size ≤ 18) (h : Lib.atoi s.data.toList = some n) (w : World) :
    Calls Tryd.prog 79 #[.string s] w fun e w' => e = .returned (.tuple #[.int .i64 n, .nilIface]) ∧ ∃ t, w' = Lib.bytesWorld w 5 t := Any.strconv_Atoi Tryd.lays172 s n hl h w
def Tryd.laysC172_ren : Go.Shelf.Ren := ⟨fun | 172 => 79 | 244 => 84 | 245 => 85 | 247 => 91 | 279 => 92 | 280 => 93 | 281 => 94 | 282 => 95 | 287 => 98 | 316 => 99 | 171 => 49 | 205 => 100 | 321 => 101 | 322 => 102 | 243 => 72 | 246 => 78 | 283 => 80 | 284 => 81 | 285 => 82 | 286 => 83 | 129 => 87 | 317 => 86 | 318 => 88 | 319 => 89 | 320 => 90 | 337 => 96 | 338 => 97 | n => n, fun | 9 => 9 | 3 => 3 | 75 => 94 | 76 => 95 | 4 => 4 | 5 => 5 | 167 => 109 | 37 => 31 | 0 => 0 | 85 => 110 | 2 => 2 | 168 => 112 | 53 => 90 | 175 => 116 | 46 => 89 | 210 => 120 | 127 => 125 | 145 => 128 | 143 => 126 | 21 => 21 | 171 => 97 | 173 => 100 | 212 => 104 | 51 => 105 | 20 => 20 | 213 => 106 | 232 => 122 | 233 => 123 | 80 => 129 | n => n, fun | 15 => 1 | 16 => 2 | 17 => 0 | 18 => 3 | 19 => 4 | n => n⟩
theorem Tryd.laysC172 : Go.Proofs.LaysC.n172 Tryd.prog Tryd.laysC172_ren := {
  mixed := by kernel_rfl
  f129 := Tryd.func87.trans (congrArg some (by kernel_rfl))
  f171 := Tryd.func49.trans (congrArg some (by kernel_rfl))
  f172 := Tryd.func79.trans (congrArg some (by kernel_rfl))
  f205 := Tryd.func100.trans (congrArg some (by kernel_rfl))
  f243 := Tryd.func72.trans (congrArg some (by kernel_rfl))
  f244 := Tryd.func84.trans (congrArg some (by kernel_rfl))
  f245 := Tryd.func85.trans (congrArg some (by kernel_rfl))
  f246 := Tryd.func78.trans (congrArg some (by kernel_rfl))
  f247 := Tryd.func91.trans (congrArg some (by kernel_rfl))
  f279 := Tryd.func92.trans (congrArg some (by kernel_rfl))
  f280 := Tryd.func93.trans (congrArg some (by kernel_rfl))
  f281 := Tryd.func94.trans (congrArg some (by kernel_rfl))
  f282 := Tryd.func95.trans (congrArg some (by kernel_rfl))
  f283 := Tryd.func80.trans (congrArg some (by kernel_rfl))
  f284 := Tryd.func81.trans (congrArg some (by kernel_rfl))
  f285 := Tryd.func82.trans (congrArg some (by kernel_rfl))
  f286 := Tryd.func83.trans (congrArg some (by kernel_rfl))
  f287 := Tryd.func98.trans (congrArg some (by kernel_rfl))
  f316 := Tryd.func99.trans (congrArg some (by kernel_rfl))
  f317 := Tryd.func86.trans (congrArg some (by kernel_rfl))
  f318 := Tryd.func88.trans (congrArg some (by kernel_rfl))
  f319 := Tryd.func89.trans (congrArg some (by kernel_rfl))
  f320 := Tryd.func90.trans (congrArg some (by kernel_rfl))
  f321 := Tryd.func101.trans (congrArg some (by kernel_rfl))
  f322 := Tryd.func102.trans (congrArg some (by kernel_rfl))
  f337 := Tryd.func96.trans (congrArg some (by kernel_rfl))
  f338 := Tryd.func97.trans (congrArg some (by kernel_rfl))
  t0 := Tryd.underlying0
  a0 := Tryd.isAgg0
  z0 := Tryd.sizeOf0
  v0 := Tryd.zeroValue0
  t2 := Tryd.underlying2
  a2 := Tryd.isAgg2
  z2 := Tryd.sizeOf2
  v2 := Tryd.zeroValue2
  t3 := Tryd.underlying3
  a3 := Tryd.isAgg3
  z3 := Tryd.sizeOf3
  v3 := Tryd.zeroValue3
  t4 := Tryd.underlying4
  a4 := Tryd.isAgg4
  z4 := Tryd.sizeOf4
  v4 := Tryd.zeroValue4
  t5 := Tryd.underlying5
  a5 := Tryd.isAgg5
  z5 := Tryd.sizeOf5
  v5 := Tryd.zeroValue5
  t9 := Tryd.underlying9
  a9 := Tryd.isAgg9
  z9 := Tryd.sizeOf9
  v9 := Tryd.zeroValue9
  t20 := Tryd.underlying20
  a20 := Tryd.isAgg20
  z20 := Tryd.sizeOf20
  v20 := Tryd.zeroValue20
  t21 := Tryd.underlying21
  a21 := Tryd.isAgg21
  z21 := Tryd.sizeOf21
  v21 := Tryd.zeroValue21
  t37 := Tryd.underlying31
  a37 := Tryd.isAgg31
  z37 := Tryd.sizeOf31
  v37 := Tryd.zeroValue31
  t46 := Tryd.underlying89
  a46 := Tryd.isAgg89
  z46 := Tryd.sizeOf89
  v46 := Tryd.zeroValue89
  t51 := Tryd.underlying105
  a51 := Tryd.isAgg105
  z51 := Tryd.sizeOf105
  v51 := Tryd.zeroValue105
  t53 := Tryd.underlying90
  a53 := Tryd.isAgg90
  z53 := Tryd.sizeOf90
  v53 := Tryd.zeroValue90
  t75 := Tryd.underlying94
  a75 := Tryd.isAgg94
  z75 := Tryd.sizeOf94
  v75 := Tryd.zeroValue94
  t76 := Tryd.underlying95
  a76 := Tryd.isAgg95
  z76 := Tryd.sizeOf95
  v76 := Tryd.zeroValue95
  t85 := Tryd.underlying110
  a85 := Tryd.isAgg110
  z85 := Tryd.sizeOf110
  v85 := Tryd.zeroValue110
  t127 := Tryd.underlying125
  a127 := Tryd.isAgg125
  z127 := Tryd.sizeOf125
  v127 := Tryd.zeroValue125
  t143 := Tryd.underlying126
  a143 := Tryd.isAgg126
  z143 := Tryd.sizeOf126
  v143 := Tryd.zeroValue126
  t145 := Tryd.underlying128
  a145 := Tryd.isAgg128
  z145 := Tryd.sizeOf128
  v145 := Tryd.zeroValue128
  t167 := Tryd.underlying109
  a167 := Tryd.isAgg109
  z167 := Tryd.sizeOf109
  v167 := Tryd.zeroValue109
  t168 := Tryd.underlying112
  a168 := Tryd.isAgg112
  z168 := Tryd.sizeOf112
  v168 := Tryd.zeroValue112
  t171 := Tryd.underlying97
  a171 := Tryd.isAgg97
  z171 := Tryd.sizeOf97
  v171 := Tryd.zeroValue97
  t173 := Tryd.underlying100
  a173 := Tryd.isAgg100
  z173 := Tryd.sizeOf100
  v173 := Tryd.zeroValue100
  t175 := Tryd.underlying116
  a175 := Tryd.isAgg116
  z175 := Tryd.sizeOf116
  v175 := Tryd.zeroValue116
  t210 := Tryd.underlying120
  a210 := Tryd.isAgg120
  z210 := Tryd.sizeOf120
  v210 := Tryd.zeroValue120
  t212 := Tryd.underlying104
  a212 := Tryd.isAgg104
  z212 := Tryd.sizeOf104
  v212 := Tryd.zeroValue104
  t213 := Tryd.underlying106
  a213 := Tryd.isAgg106
  z213 := Tryd.sizeOf106
  t232 := Tryd.underlying122
  a232 := Tryd.isAgg122
  z232 := Tryd.sizeOf122
  v232 := Tryd.zeroValue122
  t233 := Tryd.underlying123
  a233 := Tryd.isAgg123
  z233 := Tryd.sizeOf123
  v233 := Tryd.zeroValue123
  g15 := by kernel_rfl
  g16 := by kernel_rfl
  g17 := by kernel_rfl
  g18 := by kernel_rfl
  g19 := by kernel_rfl
  t80 := Tryd.underlying129
  a80 := Tryd.isAgg129
  z80 := Tryd.sizeOf129
  v80 := Tryd.zeroValue129
  i0 := by kernel_rfl
  i2 := by kernel_rfl
  i3 := by kernel_rfl
  i4 := by kernel_rfl
  i5 := by kernel_rfl
  i9 := by kernel_rfl
  i20 := by kernel_rfl
  i21 := by kernel_rfl
  i37 := by kernel_rfl
  i46 := by kernel_rfl
  i51 := by kernel_rfl
  i53 := by kernel_rfl
  i75 := by kernel_rfl
  i76 := by kernel_rfl
  i80 := by kernel_rfl
  i85 := by kernel_rfl
  i127 := by kernel_rfl
  i143 := by kernel_rfl
  i145 := by kernel_rfl
  i167 := by kernel_rfl
  i168 := by kernel_rfl
  i171 := by kernel_rfl
  i173 := by kernel_rfl
  i175 := by kernel_rfl
  i210 := by kernel_rfl
  i212 := by kernel_rfl
  i232 := by kernel_rfl
  i233 := by kernel_rfl
  m15 := by kernel_rfl
  m16 := by kernel_rfl
  m17 := by kernel_rfl
  m18 := by kernel_rfl
  m19 := by kernel_rfl
  c0 := by kernel_rfl
  c2 := by kernel_rfl
  c3 := by kernel_rfl
  c4 := by kernel_rfl
  c5 := by kernel_rfl
  c9 := by kernel_rfl
  c20 := by kernel_rfl
  c21 := by kernel_rfl
  c37 := by kernel_rfl
  c46 := by kernel_rfl
  c51 := by kernel_rfl
  c53 := by kernel_rfl
  c75 := by kernel_rfl
  c76 := by kernel_rfl
  c80 := by kernel_rfl
  c85 := by kernel_rfl
  c127 := by kernel_rfl
  c143 := by kernel_rfl
  c145 := by kernel_rfl
  c167 := by kernel_rfl
  c168 := by kernel_rfl
  c171 := by kernel_rfl
  c173 := by kernel_rfl
  c175 := by kernel_rfl
  c210 := by kernel_rfl
  c212 := by kernel_rfl
  c213 := by kernel_rfl
  c232 := by kernel_rfl
  c233 := by kernel_rfl }
open Go.RowKit in
theorem Tryd.strconv_Atoi_err_var (s : ByteArray) (hl : s.size ≤ 18) (h : Lib.atoi s.data.toList = none) (tp : TypeId) (p : Value) (w : World) (hvar : w.var? Tryd.prog "strconv.ErrSyntax" = some #[.iface tp p]) :
    Calls Tryd.prog 79 #[.string s] w fun e w' => ∃ N, e = .returned (.tuple #[.int .i64 0, .iface 112 (.pointer (some ⟨N, 0, none⟩))]) ∧ w.heap.size ≤ N ∧ w'.heap[N]? = some (.cells #[.string ⟨#[65, 116, 111, 105]⟩, .string s, .iface tp p] 120 (0, 0)) ∧ Below w.heap.size w w' := Any.strconv_Atoi_err_var Tryd.laysC172 s hl h tp p w hvar
end Go.Proofs
