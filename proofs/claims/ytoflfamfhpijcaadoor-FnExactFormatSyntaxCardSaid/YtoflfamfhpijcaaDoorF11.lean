/-
  Walks: the reference's text of a piece of syntax. No condition.
-/
import Derived.Test.YtoflfamfhpijcaaDoorF10
import Derived.Test.YtoflfamfhpijcaaDoorT2
set_option linter.unusedVariables false
set_option linter.unusedSimpArgs false
set_option maxRecDepth 100000
namespace Go.Proofs.YtoflfamfhpijcaaDoor
open Go.RowKit

def SfSs (ds : List Syn) : Prop := ∀ (k n : Int) (s : ByteArray) (x : List Int) (xa : Option Addr) (xc : Nat) (a : Option Addr) (cap : Nat) (ms : List M) (w : World), (Syn.mk k n s x ds).wf → (Syn.mk k n s x ds).ok → s.size + (x.length + (ds.length + Syn.wtX ds)) ≤ 2000000 → Syn.IsL 69 ds ms → (M.sl xa xc 1 3 (intM x)).In w → (M.sl a cap 5 69 ms).In w →
    Calls Tryd.prog 82 #[.agg #[.int .i64 k, .int .i64 n, .string s, .slice xa x.length xc, .slice a ms.length cap]] w (Ret (.string ⟨(fmtS (.mk k n s x ds)).toArray⟩) w)
set_option maxHeartbeats 2000000 in
theorem l2Format_calls : ∀ ds, SfSs ds := by
  refine Syn.inductL fun ds ih => ?_
  intro k n s x xa xc a cap ms w hwf hok hB hi hx hin
  have hl := hi.length
  have hcap := hin.len
  have hxl := Ints.len hx
  have hwd : I64 k ∧ I64 n ∧ s.size ≤ 9223372036854775807 ∧ (∀ z ∈ x, I64 z) ∧ Syn.wfL ds := hwf
  have hsum := fmtS_wt ds hwd.2.2.2.2
  have hitems := (Syn.ok_mk.1 hok).2.2
  have IH := Lib.hid ih; clear ih; have HIN := Lib.hid hin; clear hin; have HI := Lib.hid hi; clear hi; have HX := Lib.hid hx; clear hx; have HL := Lib.hid hl; clear hl; have HWF := Lib.hid hwf; clear hwf; have HWD := Lib.hid hwd; clear hwd; have HSUM := Lib.hid hsum; clear hsum; have HITEMS := Lib.hid hitems; clear hitems
  by_cases hk : k = 0
  · subst hk
    have hf := fmtS_list n s x ds
    have HF := Lib.hid hf; clear hf; have HOK := Lib.hid hok; clear hok
    go_enter Tryd.func82, Tryd.ntmps82
    go_wp2_with fail
    go_loopw [3, 20] (fun t i wr => ∃ (j : Nat) (a' : Option Addr) (cap' : Nat), j ≤ ms.length ∧ i = .int .i64 j ∧ t = .slice a' (tx (fmtSL (ds.take j))).length cap' ∧ (M.sl a' cap' 1 9 (strM (tx (fmtSL (ds.take j))))).Mine wr w.heap.size ∧ Below w.heap.size w wr) (fun _ i _ => ms.length - (intOf i).toNat)
    case atStart => exact ⟨0, some ⟨w.heap.size + 1, 0, none⟩, 0, Nat.zero_le _, rfl, by simp [tx, fmtSL], by rw [List.take_zero]; have h := Strs.lit (w.alloc (.cells #[.int .i64 0, .int .i64 n, .string s, .slice xa x.length xc, .slice a ms.length cap] 69)) w.heap.size (by simp); simpa [tx, fmtSL] using h, by (repeat (first | with_reducible assumption | with_reducible exact Below.refl _ _ | with_reducible refine Below.drew ?_ | with_reducible refine belowDrewN ?_ _ | ((with_reducible refine Below.setCell ?_ ?_ _); rotate_left; focus (first | omega | (simp; done) | (simp; omega))) | ((with_reducible refine Below.alloc ?_ ?_ _); rotate_left; focus (first | omega | (simp; done) | (simp; omega)))))⟩
    case round =>
      obtain ⟨j, a', cap', hj, rfl, rfl, hm', hb⟩ := hrel
      have hz := hb.size
      by_cases hlt : j < ms.length
      · obtain ⟨bb, off, k1, n1, s1, x1, ds1, xa1, xc1, a1, cap1, ms1, rfl, hd, hi1, hx1, hin1, c0, c1, c2, c3, c4⟩ := Syn.elem (HIN.out.below hb) HI.out j hlt
        have hmem := List.mem_of_getElem? hd
        have hwt1 := Syn.wtX_pre hd
        simp only [Syn.wt] at hwt1
        have hft := fmtSL_take hd
        have hln := fmtSL_length (ds.take j)
        have hlj : (ds.take j).length ≤ j := by simp; omega
        generalize hcur : fmtSL (ds.take j) = cur at *
        have HD := Lib.hid hd; clear hd; have HI1 := Lib.hid hi1; clear hi1; have HX1 := Lib.hid hx1; clear hx1; have HIN1 := Lib.hid hin1; clear hin1; have HM' := Lib.hid hm'; clear hm'; have HMEM := Lib.hid hmem; clear hmem; have HFT := Lib.hid hft; clear hft; have HCUR := Lib.hid hcur; clear hcur
        go_wp2_with fail
        refine (IH.out k1 n1 s1 x1 ds1 HMEM.out k1 n1 s1 x1 xa1 xc1 a1 cap1 ms1 _ (Syn.wfL_get HWD.out.2.2.2.2 HD.out) (HITEMS.out _ HMEM.out) (by omega) HI1.out (HX1.out.below (by (repeat (first | with_reducible assumption | with_reducible exact Below.refl _ _ | with_reducible refine Below.drew ?_ | with_reducible refine belowDrewN ?_ _ | ((with_reducible refine Below.setCell ?_ ?_ _); rotate_left; focus (first | omega | (simp; done) | (simp; omega))) | ((with_reducible refine Below.alloc ?_ ?_ _); rotate_left; focus (first | omega | (simp; done) | (simp; omega))))))) (HIN1.out.below (by (repeat (first | with_reducible assumption | with_reducible exact Below.refl _ _ | with_reducible refine Below.drew ?_ | with_reducible refine belowDrewN ?_ _ | ((with_reducible refine Below.setCell ?_ ?_ _); rotate_left; focus (first | omega | (simp; done) | (simp; omega))) | ((with_reducible refine Below.alloc ?_ ?_ _); rotate_left; focus (first | omega | (simp; done) | (simp; omega)))))))).mono ?_
        rintro e w1 ⟨rfl, hb1⟩
        have htx := tx_length cur
        have hsn := tx_snoc cur (fmtS (.mk k1 n1 s1 x1 ds1))
        have HTX := Lib.hid htx; clear htx; have HSN := Lib.hid hsn; clear hsn; have HLN := Lib.hid hln; clear hln; have HLJ := Lib.hid hlj; clear hlj
        go_wp2_with (at_builtin; refine wpStrs_push (wr := wr) rfl _ _ 84 rfl 9 _ Tryd.underlying84 infoS rfl w.heap.size a' cap' (tx cur) rfl HM'.out hz (by (repeat (first | with_reducible assumption | with_reducible exact Below.refl _ _ | with_reducible refine Below.drew ?_ | with_reducible refine belowDrewN ?_ _ | ((with_reducible refine Below.setCell ?_ ?_ _); rotate_left; focus (first | omega | (simp; done) | (simp; omega))) | ((with_reducible refine Below.alloc ?_ ?_ _); rotate_left; focus (first | omega | (simp; done) | (simp; omega))) | ((with_reducible refine Below.trans ?_ (Below.mono hb1 ?_)); rotate_left; focus (first | omega | (simp; done) | (simp; omega)))))) ⟨(fmtS (.mk k1 n1 s1 x1 ds1)).toArray⟩ (by simp [go_sem]) (by have := HTX.out; have := HLN.out; have := HLJ.out; have := HL.out; omega) ?_)
        intro a3 cap3 w3 hm3 hb3 hz3 hk3
        rw [HSN.out] at hm3
        have hlen : (tx cur).length + 1 = (tx (cur ++ [fmtS (.mk k1 n1 s1 x1 ds1)])).length := by simp [tx]
        have HM3 := Lib.hid hm3; clear hm3; have HLEN := Lib.hid hlen; clear hlen
        go_wp2_with fail
        go_roundw
        case rel => exact ⟨j + 1, a3, cap3, by omega, by go_num, by rw [HFT.out, ← HLEN.out], by rw [HFT.out]; exact HM3.out, by (repeat (first | with_reducible assumption | with_reducible exact Below.refl _ _ | with_reducible refine Below.drew ?_ | with_reducible refine belowDrewN ?_ _ | ((with_reducible refine Below.setCell ?_ ?_ _); rotate_left; focus (first | omega | (simp; done) | (simp; omega))) | ((with_reducible refine Below.alloc ?_ ?_ _); rotate_left; focus (first | omega | (simp; done) | (simp; omega))) | ((with_reducible refine Below.trans ?_ (Below.mono hb1 ?_)); rotate_left; focus (first | omega | (simp; done) | (simp; omega))) | ((with_reducible refine Below.trans ?_ (Below.mono hb3 ?_)); rotate_left; focus (first | omega | (simp; done) | (simp; omega)))))⟩
        case measure => simp [intOf]; omega
      · have hk2 : j = ms.length := by omega
        subst hk2
        rw [HL.out, List.take_length] at hm'
        rw [HL.out, List.take_length]
        have hjl := joinB_length [32] (fmtSL ds)
        simp only [List.length_singleton] at hjl
        have hs2 := HSUM.out
        have hns1 : ¬ (9223372036854775807 < 1 + (joinB [32] (fmtSL ds)).length) := by omega
        have hns2 : ¬ (9223372036854775807 < 1 + (joinB [32] (fmtSL ds)).length + 1) := by omega
        have hbd : ((fmtSL ds).map fun x => x.length + [(32 : UInt8)].length).sum ≤ 1000000000000 := by simp only [List.length_singleton]; omega
        have hwr := baWrap 40 41 (joinB [32] (fmtSL ds))
        have HM' := Lib.hid hm'; clear hm'; have HBD := Lib.hid hbd; clear hbd; have HWR := Lib.hid hwr; clear hwr; have HJL := Lib.hid hjl; clear hjl; have HS2 := Lib.hid hs2; clear hs2
        go_wp2_with fail
        refine (l1Join_calls a' cap' (fmtSL ds) [32] _ (HM'.out.in_.below (by (repeat (first | with_reducible assumption | with_reducible exact Below.refl _ _ | with_reducible refine Below.drew ?_ | with_reducible refine belowDrewN ?_ _ | ((with_reducible refine Below.setCell ?_ ?_ _); rotate_left; focus (first | omega | (simp; done) | (simp; omega))) | ((with_reducible refine Below.alloc ?_ ?_ _); rotate_left; focus (first | omega | (simp; done) | (simp; omega))))))) HBD.out (by decide)).mono ?_
        rintro e w1 ⟨rfl, rfl⟩
        go_wp2_with fail
        go_ret
        exact ⟨by rw [HF.out, ← HWR.out]; rfl, by (repeat (first | with_reducible assumption | with_reducible exact Below.refl _ _ | with_reducible refine Below.drew ?_ | with_reducible refine belowDrewN ?_ _ | ((with_reducible refine Below.setCell ?_ ?_ _); rotate_left; focus (first | omega | (simp; done) | (simp; omega))) | ((with_reducible refine Below.alloc ?_ ?_ _); rotate_left; focus (first | omega | (simp; done) | (simp; omega)))))⟩
  · have hf := fmtS_leaf hk n s x ds
    have hds := syn_leaf hok hk
    subst hds
    obtain rfl : ms = [] := List.length_eq_zero_iff.1 (by have := HL.out; simpa using this)
    have hkb : (k != 0) = true := by simp [hk]
    have hdok := syn_leaf_ok hok
    have hdl := fmtD_leaf_length k n s HWD.out.2.1
    have hsl := scT_length HWD.out.2.2.2.1
    have hns : ¬ (9223372036854775807 < (fmtD (.mk k n s [])).length + (scT x).length) := by omega
    have hap := baApp (fmtD (.mk k n s [])) (scT x)
    have hs0 : ((w.alloc (.cells #[.int .i64 k, .int .i64 n, .string s, .slice xa x.length xc, .slice a 0 cap] 69)).cell? ⟨w.heap.size, 0, none⟩ = some (.int .i64 k) ∧ (w.alloc (.cells #[.int .i64 k, .int .i64 n, .string s, .slice xa x.length xc, .slice a 0 cap] 69)).cell? ⟨w.heap.size, 1, none⟩ = some (.int .i64 n) ∧ (w.alloc (.cells #[.int .i64 k, .int .i64 n, .string s, .slice xa x.length xc, .slice a 0 cap] 69)).cell? ⟨w.heap.size, 2, none⟩ = some (.string s) ∧ (w.alloc (.cells #[.int .i64 k, .int .i64 n, .string s, .slice xa x.length xc, .slice a 0 cap] 69)).cell? ⟨w.heap.size, 3, none⟩ = some (.slice xa x.length xc) ∧ (w.alloc (.cells #[.int .i64 k, .int .i64 n, .string s, .slice xa x.length xc, .slice a 0 cap] 69)).cell? ⟨w.heap.size, 4, none⟩ = some (.slice a 0 cap)) := by refine ⟨?_, ?_, ?_, ?_, ?_⟩ <;> first | (simp [go_sem]; done) | (simp [go_sem]; rfl)
    have HF := Lib.hid hf; clear hf; have HOK := Lib.hid hok; clear hok; have HDOK := Lib.hid hdok; clear hdok; have HDL := Lib.hid hdl; clear hdl; have HSL := Lib.hid hsl; clear hsl; have HAP := Lib.hid hap; clear hap; have HK := Lib.hid hk; clear hk
    go_enter Tryd.func82, Tryd.ntmps82
    go_wp2_with fail
    go_region_held3 (fun w' => w'.cell? ⟨w.heap.size, 0, none⟩ = some (.int .i64 k) ∧ w'.cell? ⟨w.heap.size, 1, none⟩ = some (.int .i64 n) ∧ w'.cell? ⟨w.heap.size, 2, none⟩ = some (.string s) ∧ w'.cell? ⟨w.heap.size, 3, none⟩ = some (.slice xa x.length xc) ∧ w'.cell? ⟨w.heap.size, 4, none⟩ = some (.slice a 0 cap))
      (first | (with_reducible exact hs0) | (with_reducible exact hs1) | (with_reducible exact hs2) | (with_reducible exact hs3) | (simp only [World.cell?_drew]; first | (with_reducible exact hs0) | (with_reducible exact hs1) | (with_reducible exact hs2) | (with_reducible exact hs3)))
      (first
        | (go_at_call 120; refine (l2Datum_calls [] k n s x xa xc a cap [] _ (by simp [Syn.countL]) rfl (HIN.out.below (by first | ((repeat (first | with_reducible assumption | with_reducible exact Below.refl _ _ | with_reducible refine Below.drew ?_ | with_reducible refine belowDrewN ?_ _ | ((with_reducible refine Below.setCell ?_ ?_ _); rotate_left; focus (first | omega | (simp; done) | (simp; omega))) | ((with_reducible refine Below.alloc ?_ ?_ _); rotate_left; focus (first | omega | (simp; done) | (simp; omega))))); done) | ((repeat (first | with_reducible assumption | with_reducible exact Below.refl _ _ | with_reducible refine Below.drew ?_ | with_reducible refine belowDrewN ?_ _ | ((with_reducible refine Below.setCell ?_ ?_ _); rotate_left; focus (first | omega | (simp; done) | (simp; omega))) | ((with_reducible refine Below.alloc ?_ ?_ _); rotate_left; focus (first | omega | (simp; done) | (simp; omega))) | ((with_reducible refine Below.trans ?_ (Below.mono hb3 ?_)); rotate_left; focus (first | omega | (simp; done) | (simp; omega))))); done)))).mono ?_; rintro e w1 ⟨a1, cap1, ms1, rfl, hi1, hm1, hb1⟩; obtain ⟨hc1, hf1⟩ := bcell hb1; have hz1 := hb1.size; (try simp only [World.size_alloc, World.size_setCell, World.size_drew, sizeDrewN] at hz1 hc1 hf1); have hs1 : (w1.cell? ⟨w.heap.size, 0, none⟩ = some (.int .i64 k) ∧ w1.cell? ⟨w.heap.size, 1, none⟩ = some (.int .i64 n) ∧ w1.cell? ⟨w.heap.size, 2, none⟩ = some (.string s) ∧ w1.cell? ⟨w.heap.size, 3, none⟩ = some (.slice xa x.length xc) ∧ w1.cell? ⟨w.heap.size, 4, none⟩ = some (.slice a 0 cap)) := (by first | (simp (disch := omega) only [hc1, hs3, and_self, go_sem, World.cell?_drew]; done) | (simp (disch := omega) only [hc1, hs0, and_self, go_sem, World.cell?_drew]; done)); (try simp only [datOfL, Dat.k_mk, Dat.n_mk, Dat.s_mk, Dat.ds_mk] at hi1))
        | (go_at_call 67; refine (l2Scopes_calls xa xc x _ (by omega) HWD.out.2.2.2.1 (HX.out.below (by first | ((repeat (first | with_reducible assumption | with_reducible exact Below.refl _ _ | with_reducible refine Below.drew ?_ | with_reducible refine belowDrewN ?_ _ | ((with_reducible refine Below.setCell ?_ ?_ _); rotate_left; focus (first | omega | (simp; done) | (simp; omega))) | ((with_reducible refine Below.alloc ?_ ?_ _); rotate_left; focus (first | omega | (simp; done) | (simp; omega))))); done) | ((repeat (first | with_reducible assumption | with_reducible exact Below.refl _ _ | with_reducible refine Below.drew ?_ | with_reducible refine belowDrewN ?_ _ | ((with_reducible refine Below.setCell ?_ ?_ _); rotate_left; focus (first | omega | (simp; done) | (simp; omega))) | ((with_reducible refine Below.alloc ?_ ?_ _); rotate_left; focus (first | omega | (simp; done) | (simp; omega))) | ((with_reducible refine Below.trans ?_ (Below.mono hb1 ?_)); rotate_left; focus (first | omega | (simp; done) | (simp; omega))))); done) | ((repeat (first | with_reducible assumption | with_reducible exact Below.refl _ _ | with_reducible refine Below.drew ?_ | with_reducible refine belowDrewN ?_ _ | ((with_reducible refine Below.setCell ?_ ?_ _); rotate_left; focus (first | omega | (simp; done) | (simp; omega))) | ((with_reducible refine Below.alloc ?_ ?_ _); rotate_left; focus (first | omega | (simp; done) | (simp; omega))) | ((with_reducible refine Below.trans ?_ (Below.mono hb1 ?_)); rotate_left; focus (first | omega | (simp; done) | (simp; omega))) | ((with_reducible refine Below.trans ?_ (Below.mono hb2 ?_)); rotate_left; focus (first | omega | (simp; done) | (simp; omega))))); done)))).mono ?_; rintro e w3 ⟨rfl, hb3⟩; obtain ⟨hc3, hf3⟩ := bcell hb3; have hz3 := hb3.size; (try simp only [World.size_alloc, World.size_setCell, World.size_drew, sizeDrewN] at hz3 hc3 hf3); have hs3 : (w3.cell? ⟨w.heap.size, 0, none⟩ = some (.int .i64 k) ∧ w3.cell? ⟨w.heap.size, 1, none⟩ = some (.int .i64 n) ∧ w3.cell? ⟨w.heap.size, 2, none⟩ = some (.string s) ∧ w3.cell? ⟨w.heap.size, 3, none⟩ = some (.slice xa x.length xc) ∧ w3.cell? ⟨w.heap.size, 4, none⟩ = some (.slice a 0 cap)) := (by first | (simp (disch := omega) only [hc3, hs2, and_self, go_sem, World.cell?_drew]; done) | (simp (disch := omega) only [hc3, hs1, and_self, go_sem, World.cell?_drew]; done) | (simp (disch := omega) only [hc3, hs0, and_self, go_sem, World.cell?_drew]; done)))
        | (go_at_call 72; refine (l1Format_calls [] k n s a1 cap1 ms1 _ ⟨HWD.out.1, HWD.out.2.1, HWD.out.2.2.1, trivial⟩ HDOK.out (by simp [Dat.wtX]; omega) hi1 (hm1.in_.below (by first | ((repeat (first | with_reducible assumption | with_reducible exact Below.refl _ _ | with_reducible refine Below.drew ?_ | with_reducible refine belowDrewN ?_ _ | ((with_reducible refine Below.setCell ?_ ?_ _); rotate_left; focus (first | omega | (simp; done) | (simp; omega))) | ((with_reducible refine Below.alloc ?_ ?_ _); rotate_left; focus (first | omega | (simp; done) | (simp; omega))))); done) | ((repeat (first | with_reducible assumption | with_reducible exact Below.refl _ _ | with_reducible refine Below.drew ?_ | with_reducible refine belowDrewN ?_ _ | ((with_reducible refine Below.setCell ?_ ?_ _); rotate_left; focus (first | omega | (simp; done) | (simp; omega))) | ((with_reducible refine Below.alloc ?_ ?_ _); rotate_left; focus (first | omega | (simp; done) | (simp; omega))) | ((with_reducible refine Below.trans ?_ (Below.mono hb3 ?_)); rotate_left; focus (first | omega | (simp; done) | (simp; omega))))); done)))).mono ?_; rintro e w2 ⟨rfl, hb2⟩; obtain ⟨hc2, hf2⟩ := bcell hb2; have hz2 := hb2.size; (try simp only [World.size_alloc, World.size_setCell, World.size_drew, sizeDrewN] at hz2 hc2 hf2); have hs2 : (w2.cell? ⟨w.heap.size, 0, none⟩ = some (.int .i64 k) ∧ w2.cell? ⟨w.heap.size, 1, none⟩ = some (.int .i64 n) ∧ w2.cell? ⟨w.heap.size, 2, none⟩ = some (.string s) ∧ w2.cell? ⟨w.heap.size, 3, none⟩ = some (.slice xa x.length xc) ∧ w2.cell? ⟨w.heap.size, 4, none⟩ = some (.slice a 0 cap)) := (by first | (simp (disch := omega) only [hc2, hs3, and_self, go_sem, World.cell?_drew]; done) | (simp (disch := omega) only [hc2, hs1, and_self, go_sem, World.cell?_drew]; done))))
    all_goals
      go_wp2_with fail
      go_ret
      exact ⟨by rw [HF.out, ← HAP.out]; rfl, by first | ((repeat (first | with_reducible assumption | with_reducible exact Below.refl _ _ | with_reducible refine Below.drew ?_ | with_reducible refine belowDrewN ?_ _ | ((with_reducible refine Below.setCell ?_ ?_ _); rotate_left; focus (first | omega | (simp; done) | (simp; omega))) | ((with_reducible refine Below.alloc ?_ ?_ _); rotate_left; focus (first | omega | (simp; done) | (simp; omega))) | ((with_reducible refine Below.trans ?_ (Below.mono hb1 ?_)); rotate_left; focus (first | omega | (simp; done) | (simp; omega))) | ((with_reducible refine Below.trans ?_ (Below.mono hb2 ?_)); rotate_left; focus (first | omega | (simp; done) | (simp; omega))) | ((with_reducible refine Below.trans ?_ (Below.mono hb3 ?_)); rotate_left; focus (first | omega | (simp; done) | (simp; omega))))); done) | ((repeat (first | with_reducible assumption | with_reducible exact Below.refl _ _ | with_reducible refine Below.drew ?_ | with_reducible refine belowDrewN ?_ _ | ((with_reducible refine Below.setCell ?_ ?_ _); rotate_left; focus (first | omega | (simp; done) | (simp; omega))) | ((with_reducible refine Below.alloc ?_ ?_ _); rotate_left; focus (first | omega | (simp; done) | (simp; omega))) | ((with_reducible refine Below.trans ?_ (Below.mono hb3 ?_)); rotate_left; focus (first | omega | (simp; done) | (simp; omega))) | ((with_reducible refine Below.trans ?_ (Below.mono hb1 ?_)); rotate_left; focus (first | omega | (simp; done) | (simp; omega))) | ((with_reducible refine Below.trans ?_ (Below.mono hb2 ?_)); rotate_left; focus (first | omega | (simp; done) | (simp; omega))))); done) | ((repeat (first | with_reducible assumption | with_reducible exact Below.refl _ _ | with_reducible refine Below.drew ?_ | with_reducible refine belowDrewN ?_ _ | ((with_reducible refine Below.setCell ?_ ?_ _); rotate_left; focus (first | omega | (simp; done) | (simp; omega))) | ((with_reducible refine Below.alloc ?_ ?_ _); rotate_left; focus (first | omega | (simp; done) | (simp; omega))) | ((with_reducible refine Below.trans ?_ (Below.mono hb1 ?_)); rotate_left; focus (first | omega | (simp; done) | (simp; omega))) | ((with_reducible refine Below.trans ?_ (Below.mono hb3 ?_)); rotate_left; focus (first | omega | (simp; done) | (simp; omega))) | ((with_reducible refine Below.trans ?_ (Below.mono hb2 ?_)); rotate_left; focus (first | omega | (simp; done) | (simp; omega))))); done)⟩
/-- the text of a piece of syntax, if it is one -/
noncomputable def fmtSOf (k n : Int) (s : ByteArray) (x : List Int) (ds : List Syn) : List UInt8 := if isSynB k n s x ds = true then fmtS (.mk k n s x ds) else []
theorem isSynB_okF {k n : Int} {s : ByteArray} {x : List Int} {ds : List Syn} (h : isSynB k n s x ds = true) : (Syn.mk k n s x ds).ok := by classical (have h2 : IsSynP k n s x ds := by unfold isSynB at h; simpa using h); exact h2.2.2
set_option maxHeartbeats 1000000 in
theorem sFormatSyntax_calls (k n : Int) (s : ByteArray) (x : List Int) (ds : List Syn) (xa : Option Addr) (xc : Nat) (a : Option Addr) (cap : Nat) (ms : List M) (w : World) (hwf : (Syn.mk k n s x ds).wf) (hcB : Syn.countL ds ≤ 900000000) (hB : s.size + (x.length + (ds.length + Syn.wtX ds)) ≤ 2000000) (hi : Syn.IsL 69 ds ms) (hown : (SynOwn 69 xa xc x a cap ms).In w) :
    Calls Tryd.prog 45 #[.agg #[.int .i64 k, .int .i64 n, .string s, .slice xa x.length xc, .slice a ms.length cap]] w (Ret (.string ⟨(fmtSOf k n s x ds).toArray⟩) w) := by
  have hx := SynIn_x hown
  have hin := SynIn_ms hown
  have hcap := hin.len
  have hxl := Ints.len hx
  have HI := Lib.hid hi; clear hi; have HX := Lib.hid hx; clear hx; have HIN := Lib.hid hin; clear hin; have HOWN := Lib.hid hown; clear hown; have HWF := Lib.hid hwf; clear hwf
  go_enter Tryd.func45, Tryd.ntmps45
  go_wp2_with fail
  refine (sIsSyntax_calls k n s x ds xa xc a cap ms _ HWF.out (by omega) HI.out (HOWN.out.below (by (repeat (first | with_reducible assumption | with_reducible exact Below.refl _ _ | with_reducible refine Below.drew ?_ | with_reducible refine belowDrewN ?_ _ | ((with_reducible refine Below.setCell ?_ ?_ _); rotate_left; focus (first | omega | (simp; done) | (simp; omega))) | ((with_reducible refine Below.alloc ?_ ?_ _); rotate_left; focus (first | omega | (simp; done) | (simp; omega)))))))).mono ?_
  rintro e w1 ⟨rfl, hb1⟩
  obtain ⟨hc1, hf1⟩ := bcell hb1; have hz1 := hb1.size; (try simp only [World.size_alloc, World.size_setCell, World.size_drew, sizeDrewN] at hz1 hc1 hf1); have hp1_0 : w.heap.size < w1.heap.size := (by omega)
  have hq : SBox w.heap.size k n s (.slice xa x.length xc) (.slice a ms.length cap) w1 := by constructor <;> first | (simp (disch := omega) [hc1, hf1, go_sem]; done) | (simp (disch := omega) [hc1, hf1, go_sem]; rfl)
  obtain ⟨q0, q1, q2, q3, q4, e0, e1, e2, e3, e4⟩ := hq
  clear hc1 hf1
  cases hv : isSynB k n s x ds with
  | true =>
    have hs : fmtSOf k n s x ds = fmtS (.mk k n s x ds) := by unfold fmtSOf; rw [if_pos hv]
    have hok := isSynB_okF hv
    have HS := Lib.hid hs; clear hs; have HV := Lib.hid hv; clear hv; have HOK := Lib.hid hok; clear hok
    go_wp2_with fail
    refine (l2Format_calls ds k n s x xa xc a cap ms _ HWF.out HOK.out hB HI.out (HX.out.below (by (repeat (first | with_reducible assumption | with_reducible exact Below.refl _ _ | with_reducible refine Below.drew ?_ | with_reducible refine belowDrewN ?_ _ | ((with_reducible refine Below.setCell ?_ ?_ _); rotate_left; focus (first | omega | (simp; done) | (simp; omega))) | ((with_reducible refine Below.alloc ?_ ?_ _); rotate_left; focus (first | omega | (simp; done) | (simp; omega))) | ((with_reducible refine Below.trans ?_ (Below.mono hb1 ?_)); rotate_left; focus (first | omega | (simp; done) | (simp; omega))))))) (HIN.out.below (by (repeat (first | with_reducible assumption | with_reducible exact Below.refl _ _ | with_reducible refine Below.drew ?_ | with_reducible refine belowDrewN ?_ _ | ((with_reducible refine Below.setCell ?_ ?_ _); rotate_left; focus (first | omega | (simp; done) | (simp; omega))) | ((with_reducible refine Below.alloc ?_ ?_ _); rotate_left; focus (first | omega | (simp; done) | (simp; omega))) | ((with_reducible refine Below.trans ?_ (Below.mono hb1 ?_)); rotate_left; focus (first | omega | (simp; done) | (simp; omega)))))))).mono ?_
    rintro e w2 ⟨rfl, hb2⟩
    go_wp2_with fail
    go_ret
    exact ⟨by rw [HS.out]; rfl, by (repeat (first | with_reducible assumption | with_reducible exact Below.refl _ _ | with_reducible refine Below.drew ?_ | with_reducible refine belowDrewN ?_ _ | ((with_reducible refine Below.setCell ?_ ?_ _); rotate_left; focus (first | omega | (simp; done) | (simp; omega))) | ((with_reducible refine Below.alloc ?_ ?_ _); rotate_left; focus (first | omega | (simp; done) | (simp; omega))) | ((with_reducible refine Below.trans ?_ (Below.mono hb1 ?_)); rotate_left; focus (first | omega | (simp; done) | (simp; omega))) | ((with_reducible refine Below.trans ?_ (Below.mono hb2 ?_)); rotate_left; focus (first | omega | (simp; done) | (simp; omega)))))⟩
  | false =>
    have hs : fmtSOf k n s x ds = [] := by unfold fmtSOf; rw [if_neg (by rw [hv]; decide)]
    have HS := Lib.hid hs; clear hs; have HV := Lib.hid hv; clear hv
    go_wp2_with fail
    go_ret
    exact ⟨by rw [HS.out]; rfl, by (repeat (first | with_reducible assumption | with_reducible exact Below.refl _ _ | with_reducible refine Below.drew ?_ | with_reducible refine belowDrewN ?_ _ | ((with_reducible refine Below.setCell ?_ ?_ _); rotate_left; focus (first | omega | (simp; done) | (simp; omega))) | ((with_reducible refine Below.alloc ?_ ?_ _); rotate_left; focus (first | omega | (simp; done) | (simp; omega))) | ((with_reducible refine Below.trans ?_ (Below.mono hb1 ?_)); rotate_left; focus (first | omega | (simp; done) | (simp; omega)))))⟩
end Go.Proofs.YtoflfamfhpijcaaDoor
