/-
  Walks: the reference's text of a datum, continued. No condition.
-/
import Derived.Test.YtoflfamfhpijcaaDoorF4
import Derived.Test.YtoflfamfhpijcaaDoorN6
set_option linter.unusedVariables false
set_option linter.unusedSimpArgs false
set_option maxRecDepth 100000
namespace Go.Proofs.YtoflfamfhpijcaaDoor
open Go.RowKit

theorem Dat.wt_le : ∀ {ds : List Dat} {k : Nat} {d : Dat}, ds[k]? = some d → d.wt ≤ Dat.wtX ds
  | [], k, d, h => by simp at h
  | x :: r, 0, d, h => by simp at h; subst h; simp [Dat.wtX]
  | x :: r, k + 1, d, h => by have := Dat.wt_le (ds := r) (k := k) (by simpa using h); simp only [Dat.wtX]; omega
theorem baId (s : ByteArray) : (⟨s.data.toList.toArray⟩ : ByteArray) = s := by cases s; simp
theorem baWrap (a b : UInt8) (l : List UInt8) : (⟨#[a]⟩ ++ ⟨l.toArray⟩ ++ ⟨#[b]⟩ : ByteArray) = ⟨(a :: (l ++ [b])).toArray⟩ := by
  apply ByteArray.ext; simp [ByteArray.data_append]
theorem baWrap' (a b : UInt8) (s : ByteArray) : (⟨#[a]⟩ ++ s ++ ⟨#[b]⟩ : ByteArray) = ⟨(a :: (s.data.toList ++ [b])).toArray⟩ := by
  rw [← baWrap, baId]
theorem ok_bool {n : Int} {s : ByteArray} {ds : List Dat} (h : (Dat.mk 3 n s ds).ok) : n = 0 ∨ n = 1 := by
  have h1 := (Dat.ok_mk.1 h).1
  rw [nodeB, if_neg (by decide), if_neg (by decide), if_neg (by decide), if_pos rfl] at h1
  simp only [inB, Bool.and_eq_true, decide_eq_true_eq] at h1
  omega
def FmtSs (ds : List Dat) : Prop := ∀ (k n : Int) (s : ByteArray) (a : Option Addr) (cap : Nat) (ms : List M) (w : World), (Dat.mk k n s ds).wf → (Dat.mk k n s ds).ok → s.size + (ds.length + Dat.wtX ds) ≤ 2000000 → Dat.IsL 31 ds ms → (M.sl a cap 4 31 ms).In w →
    Calls Tryd.prog 72 #[.agg #[.int .i64 k, .int .i64 n, .string s, .slice a ms.length cap]] w (Ret (.string ⟨(fmtD (.mk k n s ds)).toArray⟩) w)
set_option maxHeartbeats 1000000 in
theorem l1Format_calls : ∀ ds, FmtSs ds := by
  refine Dat.inductL fun ds ih => ?_
  intro k n s a cap ms w hwf hok hB hi hin
  have hl := hi.length
  have hcap := hin.len
  have hwd : I64 n ∧ Dat.wfL ds := ⟨hwf.2.1, hwf.2.2.2⟩
  have hsum := fmt_wt ds hwd.2
  have hitems := (Dat.ok_mk.1 hok).2
  have IH := Lib.hid ih; clear ih; have HIN := Lib.hid hin; clear hin; have HI := Lib.hid hi; clear hi; have HL := Lib.hid hl; clear hl; have HWF := Lib.hid hwf; clear hwf; have HWD := Lib.hid hwd; clear hwd; have HSUM := Lib.hid hsum; clear hsum; have HITEMS := Lib.hid hitems; clear hitems
  by_cases h1 : k = 1
  · subst h1
    have hf := fmtD_sym n s ds
    have HF := Lib.hid hf; clear hf; have HOK := Lib.hid hok; clear hok
    go_enter Tryd.func72, Tryd.ntmps72
    go_wp2_with fail
    go_ret
    exact ⟨by rw [HF.out]; first | rfl | (simp; done), by (repeat (first | with_reducible assumption | with_reducible exact Below.refl _ _ | with_reducible refine Below.drew ?_ | with_reducible refine belowDrewN ?_ _ | ((with_reducible refine Below.setCell ?_ ?_ _); rotate_left; focus (first | omega | (simp; done) | (simp; omega))) | ((with_reducible refine Below.alloc ?_ ?_ _); rotate_left; focus (first | omega | (simp; done) | (simp; omega)))))⟩
  by_cases h2 : k = 2
  · subst h2
    have hf := fmtD_num n s ds
    have HF := Lib.hid hf; clear hf; have HOK := Lib.hid hok; clear hok
    go_enter Tryd.func72, Tryd.ntmps72
    go_wp2_with fail
    refine (sFormatNumber_calls n _ HWD.out.1).mono ?_
    rintro e w1 ⟨rfl, hb1⟩
    go_wp2_with fail
    go_ret
    exact ⟨by rw [HF.out]; rfl, by (repeat (first | with_reducible assumption | with_reducible exact Below.refl _ _ | with_reducible refine Below.drew ?_ | with_reducible refine belowDrewN ?_ _ | ((with_reducible refine Below.setCell ?_ ?_ _); rotate_left; focus (first | omega | (simp; done) | (simp; omega))) | ((with_reducible refine Below.alloc ?_ ?_ _); rotate_left; focus (first | omega | (simp; done) | (simp; omega))) | ((with_reducible refine Below.trans ?_ (Below.mono hb1 ?_)); rotate_left; focus (first | omega | (simp; done) | (simp; omega)))))⟩
  by_cases h3 : k = 3
  · subst h3
    rcases ok_bool hok with rfl | rfl
    · have hf := fmtD_fa (show (0 : Int) ≠ 1 by decide) s ds
      have HF := Lib.hid hf; clear hf; have HOK := Lib.hid hok; clear hok
      go_enter Tryd.func72, Tryd.ntmps72
      go_wp2_with fail
      go_ret
      exact ⟨by rw [HF.out]; rfl, by (repeat (first | with_reducible assumption | with_reducible exact Below.refl _ _ | with_reducible refine Below.drew ?_ | with_reducible refine belowDrewN ?_ _ | ((with_reducible refine Below.setCell ?_ ?_ _); rotate_left; focus (first | omega | (simp; done) | (simp; omega))) | ((with_reducible refine Below.alloc ?_ ?_ _); rotate_left; focus (first | omega | (simp; done) | (simp; omega)))))⟩
    · have hf := fmtD_tr s ds
      have HF := Lib.hid hf; clear hf; have HOK := Lib.hid hok; clear hok
      go_enter Tryd.func72, Tryd.ntmps72
      go_wp2_with fail
      go_ret
      exact ⟨by rw [HF.out]; rfl, by (repeat (first | with_reducible assumption | with_reducible exact Below.refl _ _ | with_reducible refine Below.drew ?_ | with_reducible refine belowDrewN ?_ _ | ((with_reducible refine Below.setCell ?_ ?_ _); rotate_left; focus (first | omega | (simp; done) | (simp; omega))) | ((with_reducible refine Below.alloc ?_ ?_ _); rotate_left; focus (first | omega | (simp; done) | (simp; omega)))))⟩
  by_cases h4 : k = 4
  · subst h4
    have hf := fmtD_str n s ds
    have hwr := baWrap' 34 34 s
    have hns1 : ¬ (9223372036854775807 < 1 + s.size) := by omega
    have hns2 : ¬ (9223372036854775807 < 1 + s.size + 1) := by omega
    have HF := Lib.hid hf; clear hf; have HOK := Lib.hid hok; clear hok; have HWR := Lib.hid hwr; clear hwr
    go_enter Tryd.func72, Tryd.ntmps72
    go_wp2_with fail
    go_ret
    exact ⟨by rw [HF.out, ← HWR.out]; rfl, by (repeat (first | with_reducible assumption | with_reducible exact Below.refl _ _ | with_reducible refine Below.drew ?_ | with_reducible refine belowDrewN ?_ _ | ((with_reducible refine Below.setCell ?_ ?_ _); rotate_left; focus (first | omega | (simp; done) | (simp; omega))) | ((with_reducible refine Below.alloc ?_ ?_ _); rotate_left; focus (first | omega | (simp; done) | (simp; omega)))))⟩
  · have hf := fmtD_list h1 h2 h3 h4 n s ds
    have e1 : (k == 1) = false := by simp [h1]
    have e2 : (k == 2) = false := by simp [h2]
    have e3 : (k == 3) = false := by simp [h3]
    have e4 : (k == 4) = false := by simp [h4]
    have HF := Lib.hid hf; clear hf; have HOK := Lib.hid hok; clear hok
    clear h1 h2 h3 h4
    go_enter Tryd.func72, Tryd.ntmps72
    go_wp2_with fail
    go_loopw [3, 34] (fun t i wr => ∃ (j : Nat) (a' : Option Addr) (cap' : Nat), j ≤ ms.length ∧ i = .int .i64 j ∧ t = .slice a' (tx (fmtL (ds.take j))).length cap' ∧ (M.sl a' cap' 1 9 (strM (tx (fmtL (ds.take j))))).Mine wr w.heap.size ∧ Below w.heap.size w wr) (fun _ i _ => ms.length - (intOf i).toNat)
    case atStart => exact ⟨0, some ⟨w.heap.size + 1, 0, none⟩, 0, Nat.zero_le _, rfl, by simp [tx, fmtL], by rw [List.take_zero]; have h := Strs.lit (w.alloc (.cells #[.int .i64 k, .int .i64 n, .string s, .slice a ms.length cap] 31)) w.heap.size (by simp); simpa [tx, fmtL] using h, by (repeat (first | with_reducible assumption | with_reducible exact Below.refl _ _ | with_reducible refine Below.drew ?_ | with_reducible refine belowDrewN ?_ _ | ((with_reducible refine Below.setCell ?_ ?_ _); rotate_left; focus (first | omega | (simp; done) | (simp; omega))) | ((with_reducible refine Below.alloc ?_ ?_ _); rotate_left; focus (first | omega | (simp; done) | (simp; omega)))))⟩
    case round =>
      obtain ⟨j, a', cap', hj, rfl, rfl, hm', hb⟩ := hrel
      have hz := hb.size
      by_cases hlt : j < ms.length
      · obtain ⟨bb, off, k1, n1, s1, ds1, a1, cap1, ms1, rfl, hd, hi1, hin1, c0, c1, c2, c3⟩ := Dat.elem (HIN.out.below hb) HI.out j hlt
        have hmem := List.mem_of_getElem? hd
        have hwt1 := Dat.wt_le hd
        simp only [Dat.wt] at hwt1
        have hft := fmtL_take hd
        have hln := fmtL_length (ds.take j)
        have hlj : (ds.take j).length ≤ j := by simp; omega
        generalize hcur : fmtL (ds.take j) = cur at *
        have HD := Lib.hid hd; clear hd; have HI1 := Lib.hid hi1; clear hi1; have HIN1 := Lib.hid hin1; clear hin1; have HM' := Lib.hid hm'; clear hm'; have HMEM := Lib.hid hmem; clear hmem; have HFT := Lib.hid hft; clear hft; have HCUR := Lib.hid hcur; clear hcur
        go_wp2_with fail
        refine (IH.out k1 n1 s1 ds1 HMEM.out k1 n1 s1 a1 cap1 ms1 _ (Dat.wfL_get HWD.out.2 HD.out) (HITEMS.out _ HMEM.out) (by omega) HI1.out (HIN1.out.below (by (repeat (first | with_reducible assumption | with_reducible exact Below.refl _ _ | with_reducible refine Below.drew ?_ | with_reducible refine belowDrewN ?_ _ | ((with_reducible refine Below.setCell ?_ ?_ _); rotate_left; focus (first | omega | (simp; done) | (simp; omega))) | ((with_reducible refine Below.alloc ?_ ?_ _); rotate_left; focus (first | omega | (simp; done) | (simp; omega)))))))).mono ?_
        rintro e w1 ⟨rfl, hb1⟩
        have htx := tx_length cur
        have hsn := tx_snoc cur (fmtD (.mk k1 n1 s1 ds1))
        have HTX := Lib.hid htx; clear htx; have HSN := Lib.hid hsn; clear hsn; have HLN := Lib.hid hln; clear hln; have HLJ := Lib.hid hlj; clear hlj
        go_wp2_with (at_builtin; refine wpStrs_push (wr := wr) rfl _ _ 84 rfl 9 _ Tryd.underlying84 infoS rfl w.heap.size a' cap' (tx cur) rfl HM'.out hz (by (repeat (first | with_reducible assumption | with_reducible exact Below.refl _ _ | with_reducible refine Below.drew ?_ | with_reducible refine belowDrewN ?_ _ | ((with_reducible refine Below.setCell ?_ ?_ _); rotate_left; focus (first | omega | (simp; done) | (simp; omega))) | ((with_reducible refine Below.alloc ?_ ?_ _); rotate_left; focus (first | omega | (simp; done) | (simp; omega))) | ((with_reducible refine Below.trans ?_ (Below.mono hb1 ?_)); rotate_left; focus (first | omega | (simp; done) | (simp; omega)))))) ⟨(fmtD (.mk k1 n1 s1 ds1)).toArray⟩ (by simp [go_sem]) (by have := HTX.out; have := HLN.out; have := HLJ.out; have := HL.out; omega) ?_)
        intro a3 cap3 w3 hm3 hb3 hz3 hk3
        rw [HSN.out] at hm3
        have hlen : (tx cur).length + 1 = (tx (cur ++ [fmtD (.mk k1 n1 s1 ds1)])).length := by simp [tx]
        have HM3 := Lib.hid hm3; clear hm3; have HLEN := Lib.hid hlen; clear hlen
        go_wp2_with fail
        go_roundw
        case rel => exact ⟨j + 1, a3, cap3, by omega, by go_num, by rw [HFT.out, ← HLEN.out], by rw [HFT.out]; exact HM3.out, by (repeat (first | with_reducible assumption | with_reducible exact Below.refl _ _ | with_reducible refine Below.drew ?_ | with_reducible refine belowDrewN ?_ _ | ((with_reducible refine Below.setCell ?_ ?_ _); rotate_left; focus (first | omega | (simp; done) | (simp; omega))) | ((with_reducible refine Below.alloc ?_ ?_ _); rotate_left; focus (first | omega | (simp; done) | (simp; omega))) | ((with_reducible refine Below.trans ?_ (Below.mono hb1 ?_)); rotate_left; focus (first | omega | (simp; done) | (simp; omega))) | ((with_reducible refine Below.trans ?_ (Below.mono hb3 ?_)); rotate_left; focus (first | omega | (simp; done) | (simp; omega)))))⟩
        case measure => simp [intOf]; omega
      · have hk2 : j = ms.length := by omega
        subst hk2
        rw [HL.out, List.take_length] at hm'
        rw [HL.out, List.take_length]
        have hjl := joinB_length [32] (fmtL ds)
        simp only [List.length_singleton] at hjl
        have hs2 := HSUM.out
        have hns1 : ¬ (9223372036854775807 < 1 + (joinB [32] (fmtL ds)).length) := by omega
        have hns2 : ¬ (9223372036854775807 < 1 + (joinB [32] (fmtL ds)).length + 1) := by omega
        have hbd : ((fmtL ds).map fun x => x.length + [(32 : UInt8)].length).sum ≤ 1000000000000 := by simp only [List.length_singleton]; omega
        have hwr := baWrap 40 41 (joinB [32] (fmtL ds))
        have HM' := Lib.hid hm'; clear hm'; have HBD := Lib.hid hbd; clear hbd; have HWR := Lib.hid hwr; clear hwr; have HJL := Lib.hid hjl; clear hjl; have HS2 := Lib.hid hs2; clear hs2
        go_wp2_with fail
        refine (l1Join_calls a' cap' (fmtL ds) [32] _ (HM'.out.in_.below (by (repeat (first | with_reducible assumption | with_reducible exact Below.refl _ _ | with_reducible refine Below.drew ?_ | with_reducible refine belowDrewN ?_ _ | ((with_reducible refine Below.setCell ?_ ?_ _); rotate_left; focus (first | omega | (simp; done) | (simp; omega))) | ((with_reducible refine Below.alloc ?_ ?_ _); rotate_left; focus (first | omega | (simp; done) | (simp; omega))))))) HBD.out (by decide)).mono ?_
        rintro e w1 ⟨rfl, rfl⟩
        go_wp2_with fail
        go_ret
        exact ⟨by rw [HF.out, ← HWR.out]; rfl, by (repeat (first | with_reducible assumption | with_reducible exact Below.refl _ _ | with_reducible refine Below.drew ?_ | with_reducible refine belowDrewN ?_ _ | ((with_reducible refine Below.setCell ?_ ?_ _); rotate_left; focus (first | omega | (simp; done) | (simp; omega))) | ((with_reducible refine Below.alloc ?_ ?_ _); rotate_left; focus (first | omega | (simp; done) | (simp; omega)))))⟩
/-- the text of a datum, if it is one -/
noncomputable def fmtOf (k n : Int) (s : ByteArray) (ds : List Dat) : List UInt8 := if isDatB k n s ds = true then fmtD (.mk k n s ds) else []
theorem isDatB_ok' {k n : Int} {s : ByteArray} {ds : List Dat} (h : isDatB k n s ds = true) : (Dat.mk k n s ds).ok := by
  have : IsDatP k n s ds := by simpa [isDatB] using h
  exact this.2.2
theorem sFormatDatum_calls (k n : Int) (s : ByteArray) (ds : List Dat) (a : Option Addr) (cap : Nat) (ms : List M) (w : World) (hwf : (Dat.mk k n s ds).wf) (hB : Dat.countL ds ≤ 900000000) (hW : s.size + (ds.length + Dat.wtX ds) ≤ 2000000) (hi : Dat.IsL 31 ds ms) (hin : (M.sl a cap 4 31 ms).In w) :
    Calls Tryd.prog 30 #[.agg #[.int .i64 k, .int .i64 n, .string s, .slice a ms.length cap]] w (Ret (.string ⟨(fmtOf k n s ds).toArray⟩) w) := by
  have hcap := hin.len
  have HI := Lib.hid hi; clear hi; have HIN := Lib.hid hin; clear hin; have HWF := Lib.hid hwf; clear hwf
  cases hv : isDatB k n s ds with
  | true =>
    have hs : fmtOf k n s ds = fmtD (.mk k n s ds) := by unfold fmtOf; rw [if_pos hv]
    rw [hs]
    have HS := Lib.hid hs; clear hs
    go_enter Tryd.func30, Tryd.ntmps30
    go_wp2_with fail
    refine (sIsDatum_calls k n s ds a cap ms _ HWF.out (by omega) HI.out (HIN.out.below (by (repeat (first | with_reducible assumption | with_reducible exact Below.refl _ _ | with_reducible refine Below.drew ?_ | with_reducible refine belowDrewN ?_ _ | ((with_reducible refine Below.setCell ?_ ?_ _); rotate_left; focus (first | omega | (simp; done) | (simp; omega))) | ((with_reducible refine Below.alloc ?_ ?_ _); rotate_left; focus (first | omega | (simp; done) | (simp; omega)))))))).mono ?_
    rintro e w1 ⟨rfl, hb1⟩
    obtain ⟨hc1, hf1⟩ := bcell hb1; have hz1 := hb1.size; (try simp only [World.size_alloc, World.size_setCell, World.size_drew, sizeDrewN] at hz1 hc1 hf1)
    have q0 : w1.cell? ⟨w.heap.size, 0, none⟩ = some (.int .i64 k) := by rw [hc1 _ _ (by omega)]; simp [go_sem]
    have q1 : w1.cell? ⟨w.heap.size, 1, none⟩ = some (.int .i64 n) := by rw [hc1 _ _ (by omega)]; simp [go_sem]
    have q2 : w1.cell? ⟨w.heap.size, 2, none⟩ = some (.string s) := by rw [hc1 _ _ (by omega)]; simp [go_sem]
    have q3 : w1.cell? ⟨w.heap.size, 3, none⟩ = some (.slice a ms.length cap) := by rw [hc1 _ _ (by omega)]; simp [go_sem]
    rw [hv]
    have hok := isDatB_ok' hv
    have HV := Lib.hid hv; clear hv; have HOK := Lib.hid hok; clear hok
    go_wp2_with fail
    refine (l1Format_calls ds k n s a cap ms _ HWF.out HOK.out hW HI.out (HIN.out.below (by (repeat (first | with_reducible assumption | with_reducible exact Below.refl _ _ | with_reducible refine Below.drew ?_ | with_reducible refine belowDrewN ?_ _ | ((with_reducible refine Below.setCell ?_ ?_ _); rotate_left; focus (first | omega | (simp; done) | (simp; omega))) | ((with_reducible refine Below.alloc ?_ ?_ _); rotate_left; focus (first | omega | (simp; done) | (simp; omega))) | ((with_reducible refine Below.trans ?_ (Below.mono hb1 ?_)); rotate_left; focus (first | omega | (simp; done) | (simp; omega)))))))).mono ?_
    rintro e w2 ⟨rfl, hb2⟩
    go_wp2_with fail
    go_ret
    exact ⟨rfl, by (repeat (first | with_reducible assumption | with_reducible exact Below.refl _ _ | with_reducible refine Below.drew ?_ | with_reducible refine belowDrewN ?_ _ | ((with_reducible refine Below.setCell ?_ ?_ _); rotate_left; focus (first | omega | (simp; done) | (simp; omega))) | ((with_reducible refine Below.alloc ?_ ?_ _); rotate_left; focus (first | omega | (simp; done) | (simp; omega))) | ((with_reducible refine Below.trans ?_ (Below.mono hb1 ?_)); rotate_left; focus (first | omega | (simp; done) | (simp; omega))) | ((with_reducible refine Below.trans ?_ (Below.mono hb2 ?_)); rotate_left; focus (first | omega | (simp; done) | (simp; omega)))))⟩
  | false =>
    have hs : fmtOf k n s ds = [] := by unfold fmtOf; rw [if_neg (by rw [hv]; decide)]
    rw [hs]
    have HS := Lib.hid hs; clear hs
    go_enter Tryd.func30, Tryd.ntmps30
    go_wp2_with fail
    refine (sIsDatum_calls k n s ds a cap ms _ HWF.out (by omega) HI.out (HIN.out.below (by (repeat (first | with_reducible assumption | with_reducible exact Below.refl _ _ | with_reducible refine Below.drew ?_ | with_reducible refine belowDrewN ?_ _ | ((with_reducible refine Below.setCell ?_ ?_ _); rotate_left; focus (first | omega | (simp; done) | (simp; omega))) | ((with_reducible refine Below.alloc ?_ ?_ _); rotate_left; focus (first | omega | (simp; done) | (simp; omega)))))))).mono ?_
    rintro e w1 ⟨rfl, hb1⟩
    obtain ⟨hc1, hf1⟩ := bcell hb1; have hz1 := hb1.size; (try simp only [World.size_alloc, World.size_setCell, World.size_drew, sizeDrewN] at hz1 hc1 hf1)
    rw [hv]
    go_wp2_with fail
    go_ret
    exact ⟨rfl, by (repeat (first | with_reducible assumption | with_reducible exact Below.refl _ _ | with_reducible refine Below.drew ?_ | with_reducible refine belowDrewN ?_ _ | ((with_reducible refine Below.setCell ?_ ?_ _); rotate_left; focus (first | omega | (simp; done) | (simp; omega))) | ((with_reducible refine Below.alloc ?_ ?_ _); rotate_left; focus (first | omega | (simp; done) | (simp; omega))) | ((with_reducible refine Below.trans ?_ (Below.mono hb1 ?_)); rotate_left; focus (first | omega | (simp; done) | (simp; omega)))))⟩
end Go.Proofs.YtoflfamfhpijcaaDoor
