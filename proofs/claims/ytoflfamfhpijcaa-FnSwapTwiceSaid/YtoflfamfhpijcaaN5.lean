/-
  Walks: the program's measure of a datum. No condition.
-/
import Derived.Test.YtoflfamfhpijcaaN4
set_option linter.unusedVariables false
set_option linter.unusedSimpArgs false
set_option maxRecDepth 100000
namespace Go.Proofs.Ytoflfamfhpijcaa
open Go.RowKit

def MsOk (k n : Int) (s : ByteArray) (ds : List Dat) (D C : Int) : Prop := D + Dat.depthL ds ≤ 20 ∧ C + 1 + Dat.countL ds ≤ 600 ∧ (Dat.mk k n s ds).ok
def RetMs (ok : Prop) (C : Int) (m : Nat) (pb : Nat) (w : World) (e : Ending) (w' : World) : Prop :=
  ∃ (b : Bool) (C' : Int), e = .returned (.bool b) ∧ (b = true ↔ ok) ∧ (b = true → C' = C + m) ∧ C ≤ C' ∧ C' ≤ C + m ∧ w'.cell? ⟨pb, 0, none⟩ = some (.int .i64 C') ∧ w'.frozen? ⟨pb, 0, none⟩ = false ∧ OnlyIn pb (pb + 1) w w'
def MsDs (ds : List Dat) : Prop := ∀ (k n : Int) (s : ByteArray) (a : Option Addr) (cap : Nat) (ms : List M) (D : Int) (pb : Nat) (C : Int) (w0 w : World), (Dat.mk k n s ds).wf → Dat.countL ds ≤ 1000000000 → Dat.IsL 31 ds ms → (M.sl a cap 4 31 ms).In w0 →
    Below w0.heap.size w0 w → w0.heap.size ≤ pb → 0 ≤ D → D ≤ 1000000000 → 0 ≤ C → C ≤ 1000000000 → w.cell? ⟨pb, 0, none⟩ = some (.int .i64 C) → w.frozen? ⟨pb, 0, none⟩ = false →
    Calls Try.prog 66 #[.agg #[.int .i64 k, .int .i64 n, .string s, .slice a ms.length cap], .int .i64 D, .pointer (some ⟨pb, 0, none⟩)] w (RetMs (MsOk k n s ds D C) C (1 + Dat.countL ds) pb w)
theorem measure_calls : ∀ ds, MsDs ds := by
  refine Dat.inductL fun ds ih => ?_
  intro k n s a cap ms D pb C w0 w hwf hB hi hin hb0 hpb hD0 hD9 hC0 hC9 hp hpf
  have hl := hi.length
  have hcap := hin.len
  have hpw := World.block_lt_of_cell? w _ hp
  simp only at hpw
  have hs : s.size ≤ 9223372036854775807 := hwf.2.2.1
  have hwl := hwf.2.2.2
  have hok : MsOk k n s ds D C ↔ D + Dat.depthL ds ≤ 20 ∧ C + 1 + Dat.countL ds ≤ 600 ∧ nodeB k n s ms.length = true ∧ ∀ d ∈ ds, d.ok := by unfold MsOk; rw [Dat.ok_mk, ← hl]
  clear hwf
  have ho1 : OnlyIn pb (pb + 1) w (w.setCell ⟨pb, 0, none⟩ (.int .i64 (C + 1))) := (OnlyIn.refl pb (pb + 1) w).set ⟨pb, 0, none⟩ _ (Nat.le_refl _) (Nat.lt_succ_self _)
  by_cases hdeep : 20 < D
  · have hno : ¬ MsOk k n s ds D C := fun h => by have := h.1; omega
    have IH := Lib.hid ih; clear ih; have HIN := Lib.hid hin; clear hin; have HI := Lib.hid hi; clear hi; have HL := Lib.hid hl; clear hl; have HWL := Lib.hid hwl; clear hwl; have HOK := Lib.hid hok; clear hok; have HNO := Lib.hid hno; clear hno
    go_enter Try.func66, Try.ntmps66
    go_wp2_with fail
    go_ret
    refine ⟨false, C + 1, rfl, by simp [HNO.out], by simp, by omega, by omega, ?_, ?_, ?_⟩
    · simp (disch := (first | omega | (simp; omega))) [go_sem, hp]
    · simp (disch := (first | omega | (simp; omega))) [go_sem, hpf]
    · first | exact ho1 | exact ho1.new _
  · by_cases hmany : 600 < C + 1
    · have hno : ¬ MsOk k n s ds D C := fun h => by have := h.2.1; omega
      have IH := Lib.hid ih; clear ih; have HIN := Lib.hid hin; clear hin; have HI := Lib.hid hi; clear hi; have HL := Lib.hid hl; clear hl; have HWL := Lib.hid hwl; clear hwl; have HOK := Lib.hid hok; clear hok; have HNO := Lib.hid hno; clear hno
      go_enter Try.func66, Try.ntmps66
      go_wp2_with fail
      go_ret
      refine ⟨false, C + 1, rfl, by simp [HNO.out], by simp, by omega, by omega, ?_, ?_, ?_⟩
      · simp (disch := (first | omega | (simp; omega))) [go_sem, hp]
      · simp (disch := (first | omega | (simp; omega))) [go_sem, hpf]
      · first | exact ho1 | exact ho1.new _
    · cases hnode : nodeB k n s ms.length with
      | false =>
        have hno : ¬ MsOk k n s ds D C := fun h => by rw [hok, hnode] at h; simp at h
        have IH := Lib.hid ih; clear ih; have HIN := Lib.hid hin; clear hin; have HI := Lib.hid hi; clear hi; have HL := Lib.hid hl; clear hl; have HWL := Lib.hid hwl; clear hwl; have HOK := Lib.hid hok; clear hok; have HNO := Lib.hid hno; clear hno
        go_enter Try.func66, Try.ntmps66
        go_wp2_with fail
        refine (rightNode_calls k n s ms.length _ hs).mono ?_
        rintro e w1 ⟨rfl, rfl⟩
        go_wp2_with fail
        go_ret
        refine ⟨false, C + 1, rfl, by simp [HNO.out], by simp, by omega, by omega, ?_, ?_, ?_⟩
        · simp (disch := (first | omega | (simp; omega))) [go_sem, hp]
        · simp (disch := (first | omega | (simp; omega))) [go_sem, hpf]
        · first | exact ho1 | exact ho1.new _
      | true =>
        have IH := Lib.hid ih; clear ih; have HIN := Lib.hid hin; clear hin; have HI := Lib.hid hi; clear hi; have HL := Lib.hid hl; clear hl; have HWL := Lib.hid hwl; clear hwl; have HOK := Lib.hid hok; clear hok
        go_enter Try.func66, Try.ntmps66
        go_wp2_with fail
        refine (rightNode_calls k n s ms.length _ hs).mono ?_
        rintro e w1 ⟨rfl, rfl⟩
        go_wp2_with fail
        have hs' : (w.setCell ⟨pb, 0, none⟩ (.int .i64 (C + 1))).heap.size = w.heap.size := by simp
        go_loopw [38] (fun i wr => ∃ (j : Nat), j ≤ ms.length ∧ i = .int .i64 j ∧ D + Dat.depthL (ds.take j) ≤ 20 ∧ C + 1 + Dat.countL (ds.take j) ≤ 600 ∧ (∀ x ∈ ds.take j, x.ok) ∧ (wr.cell? ⟨pb, 0, none⟩ = some (.int .i64 (C + 1 + Dat.countL (ds.take j))) ∧ wr.frozen? ⟨pb, 0, none⟩ = false) ∧ OnlyIn pb (pb + 1) w wr ∧ w.heap.size + 1 ≤ wr.heap.size) (fun i _ => ms.length - (intOf i).toNat)
        case atStart =>
          refine ⟨0, Nat.zero_le _, rfl, by simp [Dat.depthL]; omega, by simp [Dat.countL]; omega, by simp, ?_, ho1.new _, by simp⟩
          simp (disch := (first | omega | (simp; omega))) [go_sem, hp, hpf, Dat.countL]
        case round =>
          obtain ⟨j, hj, rfl, hdp, hct, hpre, ⟨q, qf⟩, ho, hsz⟩ := hrel
          have hbz := ho.low hb0 hpb
          by_cases hlt : j < ms.length
          · obtain ⟨b, off, k1, n1, s1, ds1, a1, cap1, ms1, rfl, hd, hi1, hin1, c0, c1, c2, c3⟩ := Dat.elem HIN.out HI.out j hlt
            have hbl := World.block_lt_of_cell? w0 _ c0
            simp only at hbl
            have e0 := (hbz.cell (p := ⟨b, _, none⟩) hbl).trans c0
            have e1 := (hbz.cell (p := ⟨b, _, none⟩) hbl).trans c1
            have e2 := (hbz.cell (p := ⟨b, _, none⟩) hbl).trans c2
            have e3 := (hbz.cell (p := ⟨b, _, none⟩) hbl).trans c3
            clear c0 c1 c2 c3
            obtain ⟨ht, hle⟩ := Dat.countL_le ds j _ hd
            have htd := Dat.depthL_take hd
            have hgd := Dat.depthL_get hd
            have hw1 := Dat.wfL_get HWL.out hd
            have hmem := List.mem_of_getElem? hd
            simp only [Dat.count] at hle ht
            simp only [Dat.depth] at htd hgd
            have hD20 : D ≤ 20 := by omega
            have hbx := hbz.alloc (by first | exact hbz.size | omega) (.cells #[.int .i64 k1, .int .i64 n1, .string s1, .slice a1 ms1.length cap1] 31)
            generalize hCe : C + 1 + (Dat.countL (ds.take j) : Int) = C1 at *
            have hC1 : 0 ≤ C1 := by omega
            have hpr : pb < wr.heap.size := by omega
            have q1 : (wr.alloc (.cells #[.int .i64 k1, .int .i64 n1, .string s1, .slice a1 ms1.length cap1] 31)).cell? ⟨pb, 0, none⟩ = some (.int .i64 C1) := by simp (disch := (first | omega | (simp; omega))) [go_sem, q]
            have q1f : (wr.alloc (.cells #[.int .i64 k1, .int .i64 n1, .string s1, .slice a1 ms1.length cap1] 31)).frozen? ⟨pb, 0, none⟩ = false := by simp (disch := (first | omega | (simp; omega))) [go_sem, qf]
            have HD := Lib.hid hd; clear hd; have HI1 := Lib.hid hi1; clear hi1; have HIN1 := Lib.hid hin1; clear hin1; have HMEM := Lib.hid hmem; clear hmem; have HT := Lib.hid ht; clear ht; have HTD := Lib.hid htd; clear htd; have HGD := Lib.hid hgd; clear hgd; have HW1 := Lib.hid hw1; clear hw1; have HB0 := Lib.hid hb0; clear hb0; have HBZ := Lib.hid hbz; clear hbz; have HO := Lib.hid ho; clear ho; have HBX := Lib.hid hbx; clear hbx; have HPRE := Lib.hid hpre; clear hpre; have HCE := Lib.hid hCe; clear hCe; have Q1 := Lib.hid q1; clear q1; have Q1F := Lib.hid q1f; clear q1f
            go_wp2_with fail
            refine (IH.out k1 n1 s1 ds1 HMEM.out k1 n1 s1 a1 cap1 ms1 (D + 1) pb C1 w0 _ HW1.out (by omega) HI1.out HIN1.out HBX.out hpb (by omega) (by omega) hC1 (by omega) Q1.out Q1F.out).mono ?_
            rintro e w1 ⟨bb, C', rfl, hbb, hbc, hlo, hhi, q', qf', ho2⟩
            have hof := (HO.out.new (.cells #[.int .i64 k1, .int .i64 n1, .string s1, .slice a1 ms1.length cap1] 31)).trans ho2
            have hz2 := ho2.size
            simp only [World.size_alloc] at hz2
            cases bb with
            | true =>
              obtain ⟨m1, m2, m3⟩ := hbb.1 rfl
              have hcc := hbc rfl
              have hpre2 := ok_take HPRE.out HD.out m3
              have hdp2 : D + (Dat.depthL (ds.take (j + 1)) : Int) ≤ 20 := by rw [HTD.out]; omega
              have hct2 : C + 1 + (Dat.countL (ds.take (j + 1)) : Int) = C' := by rw [HT.out, hcc, ← HCE.out]; push_cast; omega
              have HOF := Lib.hid hof; clear hof; have HO2 := Lib.hid ho2; clear ho2; have HPRE2 := Lib.hid hpre2; clear hpre2; have HDP2 := Lib.hid hdp2; clear hdp2; have HBB := Lib.hid hbb; clear hbb; have HBC := Lib.hid hbc; clear hbc; have HCC := Lib.hid hcc; clear hcc; have M3 := Lib.hid m3; clear m3
              go_wp2_with fail
              go_roundw
              case rel => exact ⟨j + 1, by omega, by go_num, HDP2.out, by rw [hct2]; have := HCC.out; omega, HPRE2.out, ⟨by rw [hct2]; exact q', qf'⟩, HOF.out, by omega⟩
              case measure => simp [intOf]; omega
            | false =>
              have hno : ¬ MsOk k n s ds D C := fun h => by
                have h' := HOK.out.1 h
                have : ¬ MsOk k1 n1 s1 ds1 (D + 1) C1 := fun h2 => by have := hbb.2 h2; simp at this
                apply this
                refine ⟨?_, ?_, h'.2.2.2 _ HMEM.out⟩
                · have := HGD.out; omega
                · have := HCE.out; omega
              have hcl : C + ((1 + Dat.countL ds : Nat) : Int) = C + 1 + Dat.countL ds := by push_cast; omega
              have hce := HCE.out
              have HOF := Lib.hid hof; clear hof; have HO2 := Lib.hid ho2; clear ho2; have HBB := Lib.hid hbb; clear hbb; have HBC := Lib.hid hbc; clear hbc; have HNO := Lib.hid hno; clear hno
              go_wp2_with fail
              go_ret
              exact ⟨false, C', rfl, by simp [HNO.out], by simp, by omega, by push_cast at hhi ⊢; omega, q', qf', HOF.out⟩
          · have hk2 : j = ms.length := by omega
            subst hk2
            have hd2 : ds.take ms.length = ds := by rw [HL.out, List.take_length]
            rw [hd2] at q hdp hct hpre
            have hyes : MsOk k n s ds D C := HOK.out.2 ⟨hdp, hct, hnode, hpre⟩
            have HO := Lib.hid ho; clear ho; have HBZ := Lib.hid hbz; clear hbz; have HD2 := Lib.hid hd2; clear hd2; have HYES := Lib.hid hyes; clear hyes; have HPRE := Lib.hid hpre; clear hpre
            go_wp2_with fail
            go_ret
            exact ⟨true, _, rfl, by simp [HYES.out], fun _ => rfl, by push_cast; omega, Int.le_refl _, by rw [q]; congr 2; push_cast; omega, qf, HO.out⟩
end Go.Proofs.Ytoflfamfhpijcaa
