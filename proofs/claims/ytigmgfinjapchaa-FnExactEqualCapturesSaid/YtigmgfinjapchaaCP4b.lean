/-
  Walks: EqualCaptures of the program. No condition. (printed by wip/tools/mkcap.py, the second part of its print)
-/
import Derived.Test.YtigmgfinjapchaaCP4
set_option linter.unusedVariables false
set_option linter.unusedSimpArgs false
set_option maxRecDepth 100000
namespace Go.Proofs.Ytigmgfinjapchaa
open Go.RowKit

def iECs (ds : List Cap) : Prop := ∀ (a : Option Addr) (cap : Nat) (ms : List M) (ds' : List Cap) (a' : Option Addr) (cap' : Nat) (ms' : List M) (w : World), Cap.IsL 33 74 ds ms → (M.sl a cap 12 74 ms).In w → Cap.IsL 33 74 ds' ms' → (M.sl a' cap' 12 74 ms').In w →
    Calls Try.prog 10 #[.slice a ms.length cap, .slice a' ms'.length cap'] w (Ret (.bool (capB ds ds')) w)
set_option maxHeartbeats 4000000 in
theorem iEqualCaptures_calls : ∀ ds, iECs ds := by
  refine Cap.inductL fun ds ih => ?_
  intro a cap ms ds' a' cap' ms' w hi hin hi' hin'
  have hln := hi.length
  have hln' := hi'.length
  have hcapm := hin.len
  have hcapm' := hin'.len
  by_cases hl : ms.length = ms'.length
  · have hl' : ((ms.length : Int) != (ms'.length : Int)) = false := by simp [hl]
    have IH := Lib.hid ih; clear ih; have HIN := Lib.hid hin; clear hin; have HI := Lib.hid hi; clear hi; have HIN' := Lib.hid hin'; clear hin'; have HI' := Lib.hid hi'; clear hi'; have HLN := Lib.hid hln; clear hln; have HLN' := Lib.hid hln'; clear hln'; have HL := Lib.hid hl; clear hl
    go_enter Try.func10, Try.ntmps10
    go_wp2_with fail
    go_loopw [13] (fun i wr => ∃ j : Nat, j ≤ ms.length ∧ i = .int .i64 j ∧ ds.take j = ds'.take j ∧ Below w.heap.size w wr ∧ w.heap.size ≤ wr.heap.size) (fun i _ => ms.length - (intOf i).toNat)
    case atStart => exact ⟨0, Nat.zero_le _, rfl, by simp, by (repeat (first | with_reducible assumption | with_reducible exact Below.refl _ _ | with_reducible refine Below.drew ?_ | with_reducible refine belowDrewN ?_ _ | ((with_reducible refine Below.setCell ?_ ?_ _); rotate_left; focus (first | omega | (simp; done) | (simp; omega))) | ((with_reducible refine Below.alloc ?_ ?_ _); rotate_left; focus (first | omega | (simp; done) | (simp; omega))))), by omega⟩
    case round =>
      obtain ⟨j, hj, rfl, hpre, hb, hsz⟩ := hrel
      by_cases hlt : j < ms.length
      · have hlt' : j < ms'.length := by have := HL.out; omega
        obtain ⟨b, off, k1, n1, s1, x1, ds1, xa1, xc1, a1, cap1, ms1, D, k2, n2, s2, x2, ds2, xa2, xc2, a2, cap2, ms2, es, a3, cap3, ms3, rfl, hd, hi1, hi2, hi3, hin3, ⟨c0, c1, c2, c3, c4⟩, c5, ⟨c6, c7, c8, c9, c10⟩, c11⟩ := Cap.elem (HIN.out.below hb) HI.out j hlt
        obtain ⟨b', off', k1', n1', s1', x1', ds1', xa1', xc1', a1', cap1', ms1', D', k2', n2', s2', x2', ds2', xa2', xc2', a2', cap2', ms2', es', a3', cap3', ms3', rfl, hd', hi1', hi2', hi3', hin3', ⟨c0', c1', c2', c3', c4'⟩, c5', ⟨c6', c7', c8', c9', c10'⟩, c11'⟩ := Cap.elem (HIN'.out.below hb) HI'.out j hlt'
        have hbl := World.block_lt_of_cell? wr _ c0
        have hbl' := World.block_lt_of_cell? wr _ c0'
        have hs0 : (wr.cell? ⟨b, off + j * 12, none⟩ = some (.int .i64 k1) ∧ wr.cell? ⟨b, off + j * 12 + 1, none⟩ = some (.int .i64 n1) ∧ wr.cell? ⟨b, off + j * 12 + 2, none⟩ = some (.string s1) ∧ wr.cell? ⟨b, off + j * 12 + 3, none⟩ = some (.slice xa1 x1.length xc1) ∧ wr.cell? ⟨b, off + j * 12 + 4, none⟩ = some (.slice a1 ms1.length cap1) ∧ wr.cell? ⟨b, off + j * 12 + 5, none⟩ = some (.int .i64 D) ∧ wr.cell? ⟨b, off + j * 12 + 6, none⟩ = some (.int .i64 k2) ∧ wr.cell? ⟨b, off + j * 12 + 7, none⟩ = some (.int .i64 n2) ∧ wr.cell? ⟨b, off + j * 12 + 8, none⟩ = some (.string s2) ∧ wr.cell? ⟨b, off + j * 12 + 9, none⟩ = some (.slice xa2 x2.length xc2) ∧ wr.cell? ⟨b, off + j * 12 + 10, none⟩ = some (.slice a2 ms2.length cap2) ∧ wr.cell? ⟨b, off + j * 12 + 11, none⟩ = some (.slice a3 ms3.length cap3) ∧ wr.cell? ⟨b', off' + j * 12, none⟩ = some (.int .i64 k1') ∧ wr.cell? ⟨b', off' + j * 12 + 1, none⟩ = some (.int .i64 n1') ∧ wr.cell? ⟨b', off' + j * 12 + 2, none⟩ = some (.string s1') ∧ wr.cell? ⟨b', off' + j * 12 + 3, none⟩ = some (.slice xa1' x1'.length xc1') ∧ wr.cell? ⟨b', off' + j * 12 + 4, none⟩ = some (.slice a1' ms1'.length cap1') ∧ wr.cell? ⟨b', off' + j * 12 + 5, none⟩ = some (.int .i64 D') ∧ wr.cell? ⟨b', off' + j * 12 + 6, none⟩ = some (.int .i64 k2') ∧ wr.cell? ⟨b', off' + j * 12 + 7, none⟩ = some (.int .i64 n2') ∧ wr.cell? ⟨b', off' + j * 12 + 8, none⟩ = some (.string s2') ∧ wr.cell? ⟨b', off' + j * 12 + 9, none⟩ = some (.slice xa2' x2'.length xc2') ∧ wr.cell? ⟨b', off' + j * 12 + 10, none⟩ = some (.slice a2' ms2'.length cap2') ∧ wr.cell? ⟨b', off' + j * 12 + 11, none⟩ = some (.slice a3' ms3'.length cap3')) := ⟨c0, c1, c2, c3, c4, c5, c6, c7, c8, c9, c10, c11, c0', c1', c2', c3', c4', c5', c6', c7', c8', c9', c10', c11'⟩
        clear c0 c1 c2 c3 c4 c5 c6 c7 c8 c9 c10 c11 c0' c1' c2' c3' c4' c5' c6' c7' c8' c9' c10' c11'
        by_cases heD : D = D'
        · by_cases heN : Syn.mk k1 n1 s1 x1 ds1 = Syn.mk k1' n1' s1' x1' ds1'
          · by_cases heF : Syn.mk k2 n2 s2 x2 ds2 = Syn.mk k2' n2' s2' x2' ds2'
            · by_cases heE : es = es'
              · have hD : (D != D') = false := by simp [heD]
                have hN : ∀ W, (SynOwn 33 xa1 xc1 x1 a1 cap1 ms1).In W → (SynOwn 33 xa1' xc1' x1' a1' cap1' ms1').In W → Calls Try.prog 27 #[.agg #[.int .i64 k1, .int .i64 n1, .string s1, .slice xa1 x1.length xc1, .slice a1 ms1.length cap1], .agg #[.int .i64 k1', .int .i64 n1', .string s1', .slice xa1' x1'.length xc1', .slice a1' ms1'.length cap1']] W (Ret (.bool true) W) := fun W h1 h2 => by
                  have h := iEqualSyntax_calls ds1 k1 n1 s1 x1 xa1 xc1 a1 cap1 ms1 k1' n1' s1' x1' xa1' xc1' a1' cap1' ds1' ms1' W hi1.is h1 hi1'.is h2
                  rw [(eqSB_iff _ _).2 heN] at h
                  exact h
                have hF : ∀ W, (SynOwn 33 xa2 xc2 x2 a2 cap2 ms2).In W → (SynOwn 33 xa2' xc2' x2' a2' cap2' ms2').In W → Calls Try.prog 27 #[.agg #[.int .i64 k2, .int .i64 n2, .string s2, .slice xa2 x2.length xc2, .slice a2 ms2.length cap2], .agg #[.int .i64 k2', .int .i64 n2', .string s2', .slice xa2' x2'.length xc2', .slice a2' ms2'.length cap2']] W (Ret (.bool true) W) := fun W h1 h2 => by
                  have h := iEqualSyntax_calls ds2 k2 n2 s2 x2 xa2 xc2 a2 cap2 ms2 k2' n2' s2' x2' xa2' xc2' a2' cap2' ds2' ms2' W hi2.is h1 hi2'.is h2
                  rw [(eqSB_iff _ _).2 heF] at h
                  exact h
                have hE : ∀ W, (M.sl a3 cap3 12 74 ms3).In W → (M.sl a3' cap3' 12 74 ms3').In W → Calls Try.prog 10 #[.slice a3 ms3.length cap3, .slice a3' ms3'.length cap3'] W (Ret (.bool true) W) := fun W h1 h2 => by
                  have h := IH.out _ D _ es (List.mem_of_getElem? hd) a3 cap3 ms3 es' a3' cap3' ms3' W hi3 h1 hi3' h2
                  rw [(capB_iff _ _).2 heE] at h
                  exact h
                have hpre2 := take_eq_succ hpre hd hd' (by rw [heN, heD, heF, heE])
                have HI1 := Lib.hid hi1; clear hi1; have HI2 := Lib.hid hi2; clear hi2; have HI3 := Lib.hid hi3; clear hi3; have HIN3 := Lib.hid hin3; clear hin3; have HI1' := Lib.hid hi1'; clear hi1'; have HI2' := Lib.hid hi2'; clear hi2'; have HI3' := Lib.hid hi3'; clear hi3'; have HIN3' := Lib.hid hin3'; clear hin3'; have HD := Lib.hid hd; clear hd; have HD' := Lib.hid hd'; clear hd'; have HPRE := Lib.hid hpre; clear hpre; have HED := Lib.hid heD; clear heD; have HEN := Lib.hid heN; clear heN; have HEF := Lib.hid heF; clear heF; have HEE := Lib.hid heE; clear heE; have HN := Lib.hid hN; clear hN; have HF := Lib.hid hF; clear hF; have HE := Lib.hid hE; clear hE; have HPRE2 := Lib.hid hpre2; clear hpre2
                go_wp2_with fail
                go_region_held3 (fun w' => (w'.cell? ⟨b, off + j * 12, none⟩ = some (.int .i64 k1) ∧ w'.cell? ⟨b, off + j * 12 + 1, none⟩ = some (.int .i64 n1) ∧ w'.cell? ⟨b, off + j * 12 + 2, none⟩ = some (.string s1) ∧ w'.cell? ⟨b, off + j * 12 + 3, none⟩ = some (.slice xa1 x1.length xc1) ∧ w'.cell? ⟨b, off + j * 12 + 4, none⟩ = some (.slice a1 ms1.length cap1) ∧ w'.cell? ⟨b, off + j * 12 + 5, none⟩ = some (.int .i64 D) ∧ w'.cell? ⟨b, off + j * 12 + 6, none⟩ = some (.int .i64 k2) ∧ w'.cell? ⟨b, off + j * 12 + 7, none⟩ = some (.int .i64 n2) ∧ w'.cell? ⟨b, off + j * 12 + 8, none⟩ = some (.string s2) ∧ w'.cell? ⟨b, off + j * 12 + 9, none⟩ = some (.slice xa2 x2.length xc2) ∧ w'.cell? ⟨b, off + j * 12 + 10, none⟩ = some (.slice a2 ms2.length cap2) ∧ w'.cell? ⟨b, off + j * 12 + 11, none⟩ = some (.slice a3 ms3.length cap3) ∧ w'.cell? ⟨b', off' + j * 12, none⟩ = some (.int .i64 k1') ∧ w'.cell? ⟨b', off' + j * 12 + 1, none⟩ = some (.int .i64 n1') ∧ w'.cell? ⟨b', off' + j * 12 + 2, none⟩ = some (.string s1') ∧ w'.cell? ⟨b', off' + j * 12 + 3, none⟩ = some (.slice xa1' x1'.length xc1') ∧ w'.cell? ⟨b', off' + j * 12 + 4, none⟩ = some (.slice a1' ms1'.length cap1') ∧ w'.cell? ⟨b', off' + j * 12 + 5, none⟩ = some (.int .i64 D') ∧ w'.cell? ⟨b', off' + j * 12 + 6, none⟩ = some (.int .i64 k2') ∧ w'.cell? ⟨b', off' + j * 12 + 7, none⟩ = some (.int .i64 n2') ∧ w'.cell? ⟨b', off' + j * 12 + 8, none⟩ = some (.string s2') ∧ w'.cell? ⟨b', off' + j * 12 + 9, none⟩ = some (.slice xa2' x2'.length xc2') ∧ w'.cell? ⟨b', off' + j * 12 + 10, none⟩ = some (.slice a2' ms2'.length cap2') ∧ w'.cell? ⟨b', off' + j * 12 + 11, none⟩ = some (.slice a3' ms3'.length cap3')))
                  (first | (with_reducible exact hs0) | (with_reducible exact hs1) | (with_reducible exact hs2) | (with_reducible exact hs3) | (simp only [World.cell?_drew]; first | (with_reducible exact hs0) | (with_reducible exact hs1) | (with_reducible exact hs2) | (with_reducible exact hs3)))
                  (first
                    | (go_at_call 27; (with_reducible refine (HN.out _ (HI1.out.at_ (by (repeat (first | with_reducible assumption | with_reducible exact Below.refl _ _ | with_reducible refine Below.drew ?_ | with_reducible refine belowDrewN ?_ _ | ((with_reducible refine Below.setCell ?_ ?_ _); rotate_left; focus (first | omega | (simp; done) | (simp; omega))) | ((with_reducible refine Below.alloc ?_ ?_ _); rotate_left; focus (first | omega | (simp; done) | (simp; omega))) | ((with_reducible refine Below.trans ?_ (Below.mono hb1 ?_)); rotate_left; focus (first | omega | (simp; done) | (simp; omega))) | ((with_reducible refine Below.trans ?_ (Below.mono hb2 ?_)); rotate_left; focus (first | omega | (simp; done) | (simp; omega))) | ((with_reducible refine Below.trans ?_ (Below.mono hb3 ?_)); rotate_left; focus (first | omega | (simp; done) | (simp; omega))))))) (HI1'.out.at_ (by (repeat (first | with_reducible assumption | with_reducible exact Below.refl _ _ | with_reducible refine Below.drew ?_ | with_reducible refine belowDrewN ?_ _ | ((with_reducible refine Below.setCell ?_ ?_ _); rotate_left; focus (first | omega | (simp; done) | (simp; omega))) | ((with_reducible refine Below.alloc ?_ ?_ _); rotate_left; focus (first | omega | (simp; done) | (simp; omega))) | ((with_reducible refine Below.trans ?_ (Below.mono hb1 ?_)); rotate_left; focus (first | omega | (simp; done) | (simp; omega))) | ((with_reducible refine Below.trans ?_ (Below.mono hb2 ?_)); rotate_left; focus (first | omega | (simp; done) | (simp; omega))) | ((with_reducible refine Below.trans ?_ (Below.mono hb3 ?_)); rotate_left; focus (first | omega | (simp; done) | (simp; omega)))))))).mono ?_); rintro e w1 ⟨rfl, hb1⟩; obtain ⟨hc1, hf1⟩ := bcell hb1; have hz1 := hb1.size; (try simp only [World.size_alloc, World.size_setCell, World.size_drew, sizeDrewN] at hz1 hc1 hf1); have hp1 : b < w1.heap.size := (by omega); have hp1' : b' < w1.heap.size := (by omega); have hs1 : (w1.cell? ⟨b, off + j * 12, none⟩ = some (.int .i64 k1) ∧ w1.cell? ⟨b, off + j * 12 + 1, none⟩ = some (.int .i64 n1) ∧ w1.cell? ⟨b, off + j * 12 + 2, none⟩ = some (.string s1) ∧ w1.cell? ⟨b, off + j * 12 + 3, none⟩ = some (.slice xa1 x1.length xc1) ∧ w1.cell? ⟨b, off + j * 12 + 4, none⟩ = some (.slice a1 ms1.length cap1) ∧ w1.cell? ⟨b, off + j * 12 + 5, none⟩ = some (.int .i64 D) ∧ w1.cell? ⟨b, off + j * 12 + 6, none⟩ = some (.int .i64 k2) ∧ w1.cell? ⟨b, off + j * 12 + 7, none⟩ = some (.int .i64 n2) ∧ w1.cell? ⟨b, off + j * 12 + 8, none⟩ = some (.string s2) ∧ w1.cell? ⟨b, off + j * 12 + 9, none⟩ = some (.slice xa2 x2.length xc2) ∧ w1.cell? ⟨b, off + j * 12 + 10, none⟩ = some (.slice a2 ms2.length cap2) ∧ w1.cell? ⟨b, off + j * 12 + 11, none⟩ = some (.slice a3 ms3.length cap3) ∧ w1.cell? ⟨b', off' + j * 12, none⟩ = some (.int .i64 k1') ∧ w1.cell? ⟨b', off' + j * 12 + 1, none⟩ = some (.int .i64 n1') ∧ w1.cell? ⟨b', off' + j * 12 + 2, none⟩ = some (.string s1') ∧ w1.cell? ⟨b', off' + j * 12 + 3, none⟩ = some (.slice xa1' x1'.length xc1') ∧ w1.cell? ⟨b', off' + j * 12 + 4, none⟩ = some (.slice a1' ms1'.length cap1') ∧ w1.cell? ⟨b', off' + j * 12 + 5, none⟩ = some (.int .i64 D') ∧ w1.cell? ⟨b', off' + j * 12 + 6, none⟩ = some (.int .i64 k2') ∧ w1.cell? ⟨b', off' + j * 12 + 7, none⟩ = some (.int .i64 n2') ∧ w1.cell? ⟨b', off' + j * 12 + 8, none⟩ = some (.string s2') ∧ w1.cell? ⟨b', off' + j * 12 + 9, none⟩ = some (.slice xa2' x2'.length xc2') ∧ w1.cell? ⟨b', off' + j * 12 + 10, none⟩ = some (.slice a2' ms2'.length cap2') ∧ w1.cell? ⟨b', off' + j * 12 + 11, none⟩ = some (.slice a3' ms3'.length cap3')) := (by first | (simp (disch := omega) only [hc1, hs3, and_self, go_sem, World.cell?_drew]; done) | (simp (disch := omega) only [hc1, hs2, and_self, go_sem, World.cell?_drew]; done) | (simp (disch := omega) only [hc1, hs0, and_self, go_sem, World.cell?_drew]; done)))
                    | (go_at_call 27; (with_reducible refine (HF.out _ (HI2.out.at_ (by (repeat (first | with_reducible assumption | with_reducible exact Below.refl _ _ | with_reducible refine Below.drew ?_ | with_reducible refine belowDrewN ?_ _ | ((with_reducible refine Below.setCell ?_ ?_ _); rotate_left; focus (first | omega | (simp; done) | (simp; omega))) | ((with_reducible refine Below.alloc ?_ ?_ _); rotate_left; focus (first | omega | (simp; done) | (simp; omega))) | ((with_reducible refine Below.trans ?_ (Below.mono hb1 ?_)); rotate_left; focus (first | omega | (simp; done) | (simp; omega))) | ((with_reducible refine Below.trans ?_ (Below.mono hb2 ?_)); rotate_left; focus (first | omega | (simp; done) | (simp; omega))) | ((with_reducible refine Below.trans ?_ (Below.mono hb3 ?_)); rotate_left; focus (first | omega | (simp; done) | (simp; omega))))))) (HI2'.out.at_ (by (repeat (first | with_reducible assumption | with_reducible exact Below.refl _ _ | with_reducible refine Below.drew ?_ | with_reducible refine belowDrewN ?_ _ | ((with_reducible refine Below.setCell ?_ ?_ _); rotate_left; focus (first | omega | (simp; done) | (simp; omega))) | ((with_reducible refine Below.alloc ?_ ?_ _); rotate_left; focus (first | omega | (simp; done) | (simp; omega))) | ((with_reducible refine Below.trans ?_ (Below.mono hb1 ?_)); rotate_left; focus (first | omega | (simp; done) | (simp; omega))) | ((with_reducible refine Below.trans ?_ (Below.mono hb2 ?_)); rotate_left; focus (first | omega | (simp; done) | (simp; omega))) | ((with_reducible refine Below.trans ?_ (Below.mono hb3 ?_)); rotate_left; focus (first | omega | (simp; done) | (simp; omega)))))))).mono ?_); rintro e w2 ⟨rfl, hb2⟩; obtain ⟨hc2, hf2⟩ := bcell hb2; have hz2 := hb2.size; (try simp only [World.size_alloc, World.size_setCell, World.size_drew, sizeDrewN] at hz2 hc2 hf2); have hp2 : b < w2.heap.size := (by omega); have hp2' : b' < w2.heap.size := (by omega); have hs2 : (w2.cell? ⟨b, off + j * 12, none⟩ = some (.int .i64 k1) ∧ w2.cell? ⟨b, off + j * 12 + 1, none⟩ = some (.int .i64 n1) ∧ w2.cell? ⟨b, off + j * 12 + 2, none⟩ = some (.string s1) ∧ w2.cell? ⟨b, off + j * 12 + 3, none⟩ = some (.slice xa1 x1.length xc1) ∧ w2.cell? ⟨b, off + j * 12 + 4, none⟩ = some (.slice a1 ms1.length cap1) ∧ w2.cell? ⟨b, off + j * 12 + 5, none⟩ = some (.int .i64 D) ∧ w2.cell? ⟨b, off + j * 12 + 6, none⟩ = some (.int .i64 k2) ∧ w2.cell? ⟨b, off + j * 12 + 7, none⟩ = some (.int .i64 n2) ∧ w2.cell? ⟨b, off + j * 12 + 8, none⟩ = some (.string s2) ∧ w2.cell? ⟨b, off + j * 12 + 9, none⟩ = some (.slice xa2 x2.length xc2) ∧ w2.cell? ⟨b, off + j * 12 + 10, none⟩ = some (.slice a2 ms2.length cap2) ∧ w2.cell? ⟨b, off + j * 12 + 11, none⟩ = some (.slice a3 ms3.length cap3) ∧ w2.cell? ⟨b', off' + j * 12, none⟩ = some (.int .i64 k1') ∧ w2.cell? ⟨b', off' + j * 12 + 1, none⟩ = some (.int .i64 n1') ∧ w2.cell? ⟨b', off' + j * 12 + 2, none⟩ = some (.string s1') ∧ w2.cell? ⟨b', off' + j * 12 + 3, none⟩ = some (.slice xa1' x1'.length xc1') ∧ w2.cell? ⟨b', off' + j * 12 + 4, none⟩ = some (.slice a1' ms1'.length cap1') ∧ w2.cell? ⟨b', off' + j * 12 + 5, none⟩ = some (.int .i64 D') ∧ w2.cell? ⟨b', off' + j * 12 + 6, none⟩ = some (.int .i64 k2') ∧ w2.cell? ⟨b', off' + j * 12 + 7, none⟩ = some (.int .i64 n2') ∧ w2.cell? ⟨b', off' + j * 12 + 8, none⟩ = some (.string s2') ∧ w2.cell? ⟨b', off' + j * 12 + 9, none⟩ = some (.slice xa2' x2'.length xc2') ∧ w2.cell? ⟨b', off' + j * 12 + 10, none⟩ = some (.slice a2' ms2'.length cap2') ∧ w2.cell? ⟨b', off' + j * 12 + 11, none⟩ = some (.slice a3' ms3'.length cap3')) := (by first | (simp (disch := omega) only [hc2, hs3, and_self, go_sem, World.cell?_drew]; done) | (simp (disch := omega) only [hc2, hs1, and_self, go_sem, World.cell?_drew]; done) | (simp (disch := omega) only [hc2, hs0, and_self, go_sem, World.cell?_drew]; done)))
                    | (go_at_call 10; (with_reducible refine (HE.out _ (HIN3.out.below (by (repeat (first | with_reducible assumption | with_reducible exact Below.refl _ _ | with_reducible refine Below.drew ?_ | with_reducible refine belowDrewN ?_ _ | ((with_reducible refine Below.setCell ?_ ?_ _); rotate_left; focus (first | omega | (simp; done) | (simp; omega))) | ((with_reducible refine Below.alloc ?_ ?_ _); rotate_left; focus (first | omega | (simp; done) | (simp; omega))) | ((with_reducible refine Below.trans ?_ (Below.mono hb1 ?_)); rotate_left; focus (first | omega | (simp; done) | (simp; omega))) | ((with_reducible refine Below.trans ?_ (Below.mono hb2 ?_)); rotate_left; focus (first | omega | (simp; done) | (simp; omega))) | ((with_reducible refine Below.trans ?_ (Below.mono hb3 ?_)); rotate_left; focus (first | omega | (simp; done) | (simp; omega))))))) (HIN3'.out.below (by (repeat (first | with_reducible assumption | with_reducible exact Below.refl _ _ | with_reducible refine Below.drew ?_ | with_reducible refine belowDrewN ?_ _ | ((with_reducible refine Below.setCell ?_ ?_ _); rotate_left; focus (first | omega | (simp; done) | (simp; omega))) | ((with_reducible refine Below.alloc ?_ ?_ _); rotate_left; focus (first | omega | (simp; done) | (simp; omega))) | ((with_reducible refine Below.trans ?_ (Below.mono hb1 ?_)); rotate_left; focus (first | omega | (simp; done) | (simp; omega))) | ((with_reducible refine Below.trans ?_ (Below.mono hb2 ?_)); rotate_left; focus (first | omega | (simp; done) | (simp; omega))) | ((with_reducible refine Below.trans ?_ (Below.mono hb3 ?_)); rotate_left; focus (first | omega | (simp; done) | (simp; omega)))))))).mono ?_); rintro e w3 ⟨rfl, hb3⟩; obtain ⟨hc3, hf3⟩ := bcell hb3; have hz3 := hb3.size; (try simp only [World.size_alloc, World.size_setCell, World.size_drew, sizeDrewN] at hz3 hc3 hf3); have hp3 : b < w3.heap.size := (by omega); have hp3' : b' < w3.heap.size := (by omega); have hs3 : (w3.cell? ⟨b, off + j * 12, none⟩ = some (.int .i64 k1) ∧ w3.cell? ⟨b, off + j * 12 + 1, none⟩ = some (.int .i64 n1) ∧ w3.cell? ⟨b, off + j * 12 + 2, none⟩ = some (.string s1) ∧ w3.cell? ⟨b, off + j * 12 + 3, none⟩ = some (.slice xa1 x1.length xc1) ∧ w3.cell? ⟨b, off + j * 12 + 4, none⟩ = some (.slice a1 ms1.length cap1) ∧ w3.cell? ⟨b, off + j * 12 + 5, none⟩ = some (.int .i64 D) ∧ w3.cell? ⟨b, off + j * 12 + 6, none⟩ = some (.int .i64 k2) ∧ w3.cell? ⟨b, off + j * 12 + 7, none⟩ = some (.int .i64 n2) ∧ w3.cell? ⟨b, off + j * 12 + 8, none⟩ = some (.string s2) ∧ w3.cell? ⟨b, off + j * 12 + 9, none⟩ = some (.slice xa2 x2.length xc2) ∧ w3.cell? ⟨b, off + j * 12 + 10, none⟩ = some (.slice a2 ms2.length cap2) ∧ w3.cell? ⟨b, off + j * 12 + 11, none⟩ = some (.slice a3 ms3.length cap3) ∧ w3.cell? ⟨b', off' + j * 12, none⟩ = some (.int .i64 k1') ∧ w3.cell? ⟨b', off' + j * 12 + 1, none⟩ = some (.int .i64 n1') ∧ w3.cell? ⟨b', off' + j * 12 + 2, none⟩ = some (.string s1') ∧ w3.cell? ⟨b', off' + j * 12 + 3, none⟩ = some (.slice xa1' x1'.length xc1') ∧ w3.cell? ⟨b', off' + j * 12 + 4, none⟩ = some (.slice a1' ms1'.length cap1') ∧ w3.cell? ⟨b', off' + j * 12 + 5, none⟩ = some (.int .i64 D') ∧ w3.cell? ⟨b', off' + j * 12 + 6, none⟩ = some (.int .i64 k2') ∧ w3.cell? ⟨b', off' + j * 12 + 7, none⟩ = some (.int .i64 n2') ∧ w3.cell? ⟨b', off' + j * 12 + 8, none⟩ = some (.string s2') ∧ w3.cell? ⟨b', off' + j * 12 + 9, none⟩ = some (.slice xa2' x2'.length xc2') ∧ w3.cell? ⟨b', off' + j * 12 + 10, none⟩ = some (.slice a2' ms2'.length cap2') ∧ w3.cell? ⟨b', off' + j * 12 + 11, none⟩ = some (.slice a3' ms3'.length cap3')) := (by first | (simp (disch := omega) only [hc3, hs2, and_self, go_sem, World.cell?_drew]; done) | (simp (disch := omega) only [hc3, hs1, and_self, go_sem, World.cell?_drew]; done) | (simp (disch := omega) only [hc3, hs0, and_self, go_sem, World.cell?_drew]; done))))
                all_goals
                  go_wp2_with fail
                  go_roundw
                  case rel => exact ⟨j + 1, by omega, by go_num, HPRE2.out, by (repeat (first | with_reducible assumption | with_reducible exact Below.refl _ _ | with_reducible refine Below.drew ?_ | with_reducible refine belowDrewN ?_ _ | ((with_reducible refine Below.setCell ?_ ?_ _); rotate_left; focus (first | omega | (simp; done) | (simp; omega))) | ((with_reducible refine Below.alloc ?_ ?_ _); rotate_left; focus (first | omega | (simp; done) | (simp; omega))) | ((with_reducible refine Below.trans ?_ (Below.mono hb1 ?_)); rotate_left; focus (first | omega | (simp; done) | (simp; omega))) | ((with_reducible refine Below.trans ?_ (Below.mono hb2 ?_)); rotate_left; focus (first | omega | (simp; done) | (simp; omega))) | ((with_reducible refine Below.trans ?_ (Below.mono hb3 ?_)); rotate_left; focus (first | omega | (simp; done) | (simp; omega))))), by (try simp only [World.size_drew, sizeDrewN]); omega⟩
                  case measure => simp [intOf]; omega
              · have hD : (D != D') = false := by simp [heD]
                have hN : ∀ W, (SynOwn 33 xa1 xc1 x1 a1 cap1 ms1).In W → (SynOwn 33 xa1' xc1' x1' a1' cap1' ms1').In W → Calls Try.prog 27 #[.agg #[.int .i64 k1, .int .i64 n1, .string s1, .slice xa1 x1.length xc1, .slice a1 ms1.length cap1], .agg #[.int .i64 k1', .int .i64 n1', .string s1', .slice xa1' x1'.length xc1', .slice a1' ms1'.length cap1']] W (Ret (.bool true) W) := fun W h1 h2 => by
                  have h := iEqualSyntax_calls ds1 k1 n1 s1 x1 xa1 xc1 a1 cap1 ms1 k1' n1' s1' x1' xa1' xc1' a1' cap1' ds1' ms1' W hi1.is h1 hi1'.is h2
                  rw [(eqSB_iff _ _).2 heN] at h
                  exact h
                have hF : ∀ W, (SynOwn 33 xa2 xc2 x2 a2 cap2 ms2).In W → (SynOwn 33 xa2' xc2' x2' a2' cap2' ms2').In W → Calls Try.prog 27 #[.agg #[.int .i64 k2, .int .i64 n2, .string s2, .slice xa2 x2.length xc2, .slice a2 ms2.length cap2], .agg #[.int .i64 k2', .int .i64 n2', .string s2', .slice xa2' x2'.length xc2', .slice a2' ms2'.length cap2']] W (Ret (.bool true) W) := fun W h1 h2 => by
                  have h := iEqualSyntax_calls ds2 k2 n2 s2 x2 xa2 xc2 a2 cap2 ms2 k2' n2' s2' x2' xa2' xc2' a2' cap2' ds2' ms2' W hi2.is h1 hi2'.is h2
                  rw [(eqSB_iff _ _).2 heF] at h
                  exact h
                have hE : ∀ W, (M.sl a3 cap3 12 74 ms3).In W → (M.sl a3' cap3' 12 74 ms3').In W → Calls Try.prog 10 #[.slice a3 ms3.length cap3, .slice a3' ms3'.length cap3'] W (Ret (.bool false) W) := fun W h1 h2 => by
                  have h := IH.out _ D _ es (List.mem_of_getElem? hd) a3 cap3 ms3 es' a3' cap3' ms3' W hi3 h1 hi3' h2
                  rw [(capB_not _ _).2 heE] at h
                  exact h
                have hne := ne_of_get hd hd' (fun e => heE (by injection e))
                have HI1 := Lib.hid hi1; clear hi1; have HI2 := Lib.hid hi2; clear hi2; have HI3 := Lib.hid hi3; clear hi3; have HIN3 := Lib.hid hin3; clear hin3; have HI1' := Lib.hid hi1'; clear hi1'; have HI2' := Lib.hid hi2'; clear hi2'; have HI3' := Lib.hid hi3'; clear hi3'; have HIN3' := Lib.hid hin3'; clear hin3'; have HD := Lib.hid hd; clear hd; have HD' := Lib.hid hd'; clear hd'; have HPRE := Lib.hid hpre; clear hpre; have HED := Lib.hid heD; clear heD; have HEN := Lib.hid heN; clear heN; have HEF := Lib.hid heF; clear heF; have HEE := Lib.hid heE; clear heE; have HN := Lib.hid hN; clear hN; have HF := Lib.hid hF; clear hF; have HE := Lib.hid hE; clear hE; have HNE := Lib.hid hne; clear hne
                go_wp2_with fail
                refine wp_region_held_drew (S := fun w' => (w'.cell? ⟨b, off + j * 12, none⟩ = some (.int .i64 k1) ∧ w'.cell? ⟨b, off + j * 12 + 1, none⟩ = some (.int .i64 n1) ∧ w'.cell? ⟨b, off + j * 12 + 2, none⟩ = some (.string s1) ∧ w'.cell? ⟨b, off + j * 12 + 3, none⟩ = some (.slice xa1 x1.length xc1) ∧ w'.cell? ⟨b, off + j * 12 + 4, none⟩ = some (.slice a1 ms1.length cap1) ∧ w'.cell? ⟨b, off + j * 12 + 5, none⟩ = some (.int .i64 D) ∧ w'.cell? ⟨b, off + j * 12 + 6, none⟩ = some (.int .i64 k2) ∧ w'.cell? ⟨b, off + j * 12 + 7, none⟩ = some (.int .i64 n2) ∧ w'.cell? ⟨b, off + j * 12 + 8, none⟩ = some (.string s2) ∧ w'.cell? ⟨b, off + j * 12 + 9, none⟩ = some (.slice xa2 x2.length xc2) ∧ w'.cell? ⟨b, off + j * 12 + 10, none⟩ = some (.slice a2 ms2.length cap2) ∧ w'.cell? ⟨b, off + j * 12 + 11, none⟩ = some (.slice a3 ms3.length cap3) ∧ w'.cell? ⟨b', off' + j * 12, none⟩ = some (.int .i64 k1') ∧ w'.cell? ⟨b', off' + j * 12 + 1, none⟩ = some (.int .i64 n1') ∧ w'.cell? ⟨b', off' + j * 12 + 2, none⟩ = some (.string s1') ∧ w'.cell? ⟨b', off' + j * 12 + 3, none⟩ = some (.slice xa1' x1'.length xc1') ∧ w'.cell? ⟨b', off' + j * 12 + 4, none⟩ = some (.slice a1' ms1'.length cap1') ∧ w'.cell? ⟨b', off' + j * 12 + 5, none⟩ = some (.int .i64 D') ∧ w'.cell? ⟨b', off' + j * 12 + 6, none⟩ = some (.int .i64 k2') ∧ w'.cell? ⟨b', off' + j * 12 + 7, none⟩ = some (.int .i64 n2') ∧ w'.cell? ⟨b', off' + j * 12 + 8, none⟩ = some (.string s2') ∧ w'.cell? ⟨b', off' + j * 12 + 9, none⟩ = some (.slice xa2' x2'.length xc2') ∧ w'.cell? ⟨b', off' + j * 12 + 10, none⟩ = some (.slice a2' ms2'.length cap2') ∧ w'.cell? ⟨b', off' + j * 12 + 11, none⟩ = some (.slice a3' ms3'.length cap3'))) (by kernel_rfl) ?_ (fun hHeld => ?_)
                · (first | (with_reducible exact hs0) | (with_reducible exact hs1) | (with_reducible exact hs2) | (with_reducible exact hs3) | (simp only [World.cell?_drew]; first | (with_reducible exact hs0) | (with_reducible exact hs1) | (with_reducible exact hs2) | (with_reducible exact hs3)))
                refine wpAnyH_take (i := 0) (oi := ?oo201) (v := ?vv201) ?hi201 (by kernel_rfl) (by kernel_rfl) (by kernel_rfl) ?hq201 ?hw201 (by assumption) ?rest201
                case hi201 => (simp only [List.getElem?_toArray, List.getElem?_cons_succ, List.getElem?_cons_zero]; rfl)
                case hq201 => exact fun _ _ _ h => h
                case hw201 => (refine Or.inl ⟨by rfl, ?_⟩; intro w hSw; (try dsimp only at hSw); go_simp; try with_reducible rfl)
                (try simp only [Act.put, List.setIfInBounds_toArray, List.set_cons_zero, List.set_cons_succ])
                refine wpAnyH_take (i := 1) (oi := ?oo202) (v := ?vv202) ?hi202 (by kernel_rfl) (by kernel_rfl) (by kernel_rfl) ?hq202 ?hw202 (by assumption) ?rest202
                case hi202 => (simp only [List.getElem?_toArray, List.getElem?_cons_succ, List.getElem?_cons_zero]; rfl)
                case hq202 => exact fun _ _ _ h => h
                case hw202 => (refine Or.inl ⟨by rfl, ?_⟩; intro w hSw; (try dsimp only at hSw); go_simp; try with_reducible rfl)
                (try simp only [Act.put, List.setIfInBounds_toArray, List.set_cons_zero, List.set_cons_succ])
                refine wpAnyH_take (i := 2) (oi := ?oo203) (v := ?vv203) ?hi203 (by kernel_rfl) (by kernel_rfl) (by kernel_rfl) ?hq203 ?hw203 (by assumption) ?rest203
                case hi203 => (simp only [List.getElem?_toArray, List.getElem?_cons_succ, List.getElem?_cons_zero]; rfl)
                case hq203 => exact fun _ _ _ h => h
                case hw203 => (refine Or.inl ⟨by rfl, ?_⟩; intro w hSw; (try dsimp only at hSw); go_simp; try with_reducible rfl)
                (try simp only [Act.put, List.setIfInBounds_toArray, List.set_cons_zero, List.set_cons_succ])
                refine wpAnyH_take (i := 3) (oi := ?oo204) (v := ?vv204) ?hi204 (by kernel_rfl) (by kernel_rfl) (by kernel_rfl) ?hq204 ?hw204 (by assumption) ?rest204
                case hi204 => (simp only [List.getElem?_toArray, List.getElem?_cons_succ, List.getElem?_cons_zero]; rfl)
                case hq204 => exact fun _ _ _ h => h
                case hw204 => (refine Or.inl ⟨by rfl, ?_⟩; intro w hSw; (try dsimp only at hSw); go_simp; try with_reducible rfl)
                (try simp only [Act.put, List.setIfInBounds_toArray, List.set_cons_zero, List.set_cons_succ])
                refine wpAnyH_take (i := 4) (oi := ?oo205) (v := ?vv205) ?hi205 (by kernel_rfl) (by kernel_rfl) (by kernel_rfl) ?hq205 ?hw205 (by assumption) ?rest205
                case hi205 => (simp only [List.getElem?_toArray, List.getElem?_cons_succ, List.getElem?_cons_zero]; rfl)
                case hq205 => exact fun _ _ _ h => h
                case hw205 => (refine Or.inl ⟨by rfl, ?_⟩; intro w hSw; (try dsimp only at hSw); go_simp; try with_reducible rfl)
                (try simp only [Act.put, List.setIfInBounds_toArray, List.set_cons_zero, List.set_cons_succ])
                refine wpAnyH_take (i := 5) (oi := ?oo206) (v := ?vv206) ?hi206 (by kernel_rfl) (by kernel_rfl) (by kernel_rfl) ?hq206 ?hw206 (by assumption) ?rest206
                case hi206 => (simp only [List.getElem?_toArray, List.getElem?_cons_succ, List.getElem?_cons_zero]; rfl)
                case hq206 => exact fun _ _ _ h => h
                case hw206 => (refine Or.inl ⟨by rfl, ?_⟩; intro w hSw; (try dsimp only at hSw); go_simp; try with_reducible rfl)
                (try simp only [Act.put, List.setIfInBounds_toArray, List.set_cons_zero, List.set_cons_succ])
                refine wpAnyH_take (i := 6) (oi := ?oo207) (v := ?vv207) ?hi207 (by kernel_rfl) (by kernel_rfl) (by kernel_rfl) ?hq207 ?hw207 (by assumption) ?rest207
                case hi207 => (simp only [List.getElem?_toArray, List.getElem?_cons_succ, List.getElem?_cons_zero]; rfl)
                case hq207 => exact fun _ _ _ h => h
                case hw207 => (refine Or.inl ⟨by rfl, ?_⟩; intro w hSw; (try dsimp only at hSw); go_simp; try with_reducible rfl)
                (try simp only [Act.put, List.setIfInBounds_toArray, List.set_cons_zero, List.set_cons_succ])
                refine wpAnyH_take (i := 7) (oi := ?oo208) (v := ?vv208) ?hi208 (by kernel_rfl) (by kernel_rfl) (by kernel_rfl) ?hq208 ?hw208 (by assumption) ?rest208
                case hi208 => (simp only [List.getElem?_toArray, List.getElem?_cons_succ, List.getElem?_cons_zero]; rfl)
                case hq208 => exact fun _ _ _ h => h
                case hw208 => (refine Or.inl ⟨by rfl, ?_⟩; intro w hSw; (try dsimp only at hSw); go_simp; try with_reducible rfl)
                (try simp only [Act.put, List.setIfInBounds_toArray, List.set_cons_zero, List.set_cons_succ])
                refine wpAnyH_take (i := 8) (oi := ?oo209) (v := ?vv209) ?hi209 (by kernel_rfl) (by kernel_rfl) (by kernel_rfl) ?hq209 ?hw209 (by assumption) ?rest209
                case hi209 => (simp only [List.getElem?_toArray, List.getElem?_cons_succ, List.getElem?_cons_zero]; rfl)
                case hq209 => exact fun _ _ _ h => h
                case hw209 => (refine Or.inl ⟨by rfl, ?_⟩; intro w hSw; (try dsimp only at hSw); go_simp; try with_reducible rfl)
                (try simp only [Act.put, List.setIfInBounds_toArray, List.set_cons_zero, List.set_cons_succ])
                refine wpAnyH_take (i := 9) (oi := ?oo210) (v := ?vv210) ?hi210 (by kernel_rfl) (by kernel_rfl) (by kernel_rfl) ?hq210 ?hw210 (by assumption) ?rest210
                case hi210 => (simp only [List.getElem?_toArray, List.getElem?_cons_succ, List.getElem?_cons_zero]; rfl)
                case hq210 => exact fun _ _ _ h => h
                case hw210 => (refine Or.inl ⟨by rfl, ?_⟩; intro w hSw; (try dsimp only at hSw); go_simp; try with_reducible rfl)
                (try simp only [Act.put, List.setIfInBounds_toArray, List.set_cons_zero, List.set_cons_succ])
                refine wpAnyH_take (i := 10) (oi := ?oo211) (v := ?vv211) ?hi211 (by kernel_rfl) (by kernel_rfl) (by kernel_rfl) ?hq211 ?hw211 (by assumption) ?rest211
                case hi211 => (simp only [List.getElem?_toArray, List.getElem?_cons_succ, List.getElem?_cons_zero]; rfl)
                case hq211 => exact fun _ _ _ h => h
                case hw211 => (refine Or.inl ⟨by rfl, ?_⟩; intro w hSw; (try dsimp only at hSw); go_simp; try with_reducible rfl)
                (try simp only [Act.put, List.setIfInBounds_toArray, List.set_cons_zero, List.set_cons_succ])
                refine wpAnyH_take (i := 11) (oi := ?oo212) (v := ?vv212) ?hi212 (by kernel_rfl) (by kernel_rfl) (by kernel_rfl) ?hq212 ?hw212 (by assumption) ?rest212
                case hi212 => (simp only [List.getElem?_toArray, List.getElem?_cons_succ, List.getElem?_cons_zero]; rfl)
                case hq212 => exact fun _ _ _ h => h
                case hw212 => (refine Or.inl ⟨by rfl, ?_⟩; intro w hSw; (try dsimp only at hSw); go_simp; try with_reducible rfl)
                (try simp only [Act.put, List.setIfInBounds_toArray, List.set_cons_zero, List.set_cons_succ])
                refine wpAnyH_take (i := 12) (oi := ?oo213) (v := ?vv213) ?hi213 (by kernel_rfl) (by kernel_rfl) (by kernel_rfl) ?hq213 ?hw213 (by assumption) ?rest213
                case hi213 => (simp only [List.getElem?_toArray, List.getElem?_cons_succ, List.getElem?_cons_zero]; rfl)
                case hq213 => exact fun _ _ _ h => h
                case hw213 => (refine Or.inl ⟨by rfl, ?_⟩; intro w hSw; (try dsimp only at hSw); go_simp; try with_reducible rfl)
                (try simp only [Act.put, List.setIfInBounds_toArray, List.set_cons_zero, List.set_cons_succ])
                refine wpAnyH_take (i := 13) (oi := ?oo214) (v := ?vv214) ?hi214 (by kernel_rfl) (by kernel_rfl) (by kernel_rfl) ?hq214 ?hw214 (by assumption) ?rest214
                case hi214 => (simp only [List.getElem?_toArray, List.getElem?_cons_succ, List.getElem?_cons_zero]; rfl)
                case hq214 => exact fun _ _ _ h => h
                case hw214 => (refine Or.inl ⟨by rfl, ?_⟩; intro w hSw; (try dsimp only at hSw); go_simp; try with_reducible rfl)
                (try simp only [Act.put, List.setIfInBounds_toArray, List.set_cons_zero, List.set_cons_succ])
                refine wpAnyH_take (i := 14) (oi := ?oo215) (v := ?vv215) ?hi215 (by kernel_rfl) (by kernel_rfl) (by kernel_rfl) ?hq215 ?hw215 (by assumption) ?rest215
                case hi215 => (simp only [List.getElem?_toArray, List.getElem?_cons_succ, List.getElem?_cons_zero]; rfl)
                case hq215 => exact fun _ _ _ h => h
                case hw215 => (refine Or.inl ⟨by rfl, ?_⟩; intro w hSw; (try dsimp only at hSw); go_simp; try with_reducible rfl)
                (try simp only [Act.put, List.setIfInBounds_toArray, List.set_cons_zero, List.set_cons_succ])
                refine wpAnyH_take (i := 15) (oi := ?oo216) (v := ?vv216) ?hi216 (by kernel_rfl) (by kernel_rfl) (by kernel_rfl) ?hq216 ?hw216 (by assumption) ?rest216
                case hi216 => (simp only [List.getElem?_toArray, List.getElem?_cons_succ, List.getElem?_cons_zero]; rfl)
                case hq216 => exact fun _ _ _ h => h
                case hw216 => (refine Or.inl ⟨by rfl, ?_⟩; intro w hSw; (try dsimp only at hSw); go_simp; try with_reducible rfl)
                (try simp only [Act.put, List.setIfInBounds_toArray, List.set_cons_zero, List.set_cons_succ])
                refine wpAnyH_take (i := 16) (oi := ?oo217) (v := ?vv217) ?hi217 (by kernel_rfl) (by kernel_rfl) (by kernel_rfl) ?hq217 ?hw217 (by assumption) ?rest217
                case hi217 => (simp only [List.getElem?_toArray, List.getElem?_cons_succ, List.getElem?_cons_zero]; rfl)
                case hq217 => exact fun _ _ _ h => h
                case hw217 => (refine Or.inl ⟨by rfl, ?_⟩; intro w hSw; (try dsimp only at hSw); go_simp; try with_reducible rfl)
                (try simp only [Act.put, List.setIfInBounds_toArray, List.set_cons_zero, List.set_cons_succ])
                refine wpAnyH_take (i := 17) (oi := ?oo218) (v := ?vv218) ?hi218 (by kernel_rfl) (by kernel_rfl) (by kernel_rfl) ?hq218 ?hw218 (by assumption) ?rest218
                case hi218 => (simp only [List.getElem?_toArray, List.getElem?_cons_succ, List.getElem?_cons_zero]; rfl)
                case hq218 => exact fun _ _ _ h => h
                case hw218 => (refine Or.inl ⟨by rfl, ?_⟩; intro w hSw; (try dsimp only at hSw); go_simp; try with_reducible rfl)
                (try simp only [Act.put, List.setIfInBounds_toArray, List.set_cons_zero, List.set_cons_succ])
                refine wpAnyH_take (i := 18) (oi := ?oo219) (v := ?vv219) ?hi219 (by kernel_rfl) (by kernel_rfl) (by kernel_rfl) ?hq219 ?hw219 (by assumption) ?rest219
                case hi219 => (simp only [List.getElem?_toArray, List.getElem?_cons_succ, List.getElem?_cons_zero]; rfl)
                case hq219 => exact fun _ _ _ h => h
                case hw219 => (refine Or.inl ⟨by rfl, ?_⟩; intro w hSw; (try dsimp only at hSw); go_simp; try with_reducible rfl)
                (try simp only [Act.put, List.setIfInBounds_toArray, List.set_cons_zero, List.set_cons_succ])
                refine wpAnyH_take (i := 19) (oi := ?oo220) (v := ?vv220) ?hi220 (by kernel_rfl) (by kernel_rfl) (by kernel_rfl) ?hq220 ?hw220 (by assumption) ?rest220
                case hi220 => (simp only [List.getElem?_toArray, List.getElem?_cons_succ, List.getElem?_cons_zero]; rfl)
                case hq220 => exact fun _ _ _ h => h
                case hw220 => (refine Or.inl ⟨by rfl, ?_⟩; intro w hSw; (try dsimp only at hSw); go_simp; try with_reducible rfl)
                (try simp only [Act.put, List.setIfInBounds_toArray, List.set_cons_zero, List.set_cons_succ])
                refine wpAnyH_take (i := 20) (oi := ?oo221) (v := ?vv221) ?hi221 (by kernel_rfl) (by kernel_rfl) (by kernel_rfl) ?hq221 ?hw221 (by assumption) ?rest221
                case hi221 => (simp only [List.getElem?_toArray, List.getElem?_cons_succ, List.getElem?_cons_zero]; rfl)
                case hq221 => exact fun _ _ _ h => h
                case hw221 => (refine Or.inl ⟨by rfl, ?_⟩; intro w hSw; (try dsimp only at hSw); go_simp; try with_reducible rfl)
                (try simp only [Act.put, List.setIfInBounds_toArray, List.set_cons_zero, List.set_cons_succ])
                refine wpAnyH_take (i := 21) (oi := ?oo222) (v := ?vv222) ?hi222 (by kernel_rfl) (by kernel_rfl) (by kernel_rfl) ?hq222 ?hw222 (by assumption) ?rest222
                case hi222 => (simp only [List.getElem?_toArray, List.getElem?_cons_succ, List.getElem?_cons_zero]; rfl)
                case hq222 => exact fun _ _ _ h => h
                case hw222 => (refine Or.inl ⟨by rfl, ?_⟩; intro w hSw; (try dsimp only at hSw); go_simp; try with_reducible rfl)
                (try simp only [Act.put, List.setIfInBounds_toArray, List.set_cons_zero, List.set_cons_succ])
                refine wpAnyH_ready (rs := [22]) (by kernel_rfl) (by simp) ?_
                refine AllReadyH.cons (o := _) rfl (fun K hK => ?_) AllReadyH.nil
                go_simp
                go_at_call 27; (with_reducible refine (HN.out _ (HI1.out.at_ (by (repeat (first | with_reducible assumption | with_reducible exact Below.refl _ _ | with_reducible refine Below.drew ?_ | with_reducible refine belowDrewN ?_ _ | ((with_reducible refine Below.setCell ?_ ?_ _); rotate_left; focus (first | omega | (simp; done) | (simp; omega))) | ((with_reducible refine Below.alloc ?_ ?_ _); rotate_left; focus (first | omega | (simp; done) | (simp; omega))) | ((with_reducible refine Below.trans ?_ (Below.mono hb1 ?_)); rotate_left; focus (first | omega | (simp; done) | (simp; omega))) | ((with_reducible refine Below.trans ?_ (Below.mono hb2 ?_)); rotate_left; focus (first | omega | (simp; done) | (simp; omega))) | ((with_reducible refine Below.trans ?_ (Below.mono hb3 ?_)); rotate_left; focus (first | omega | (simp; done) | (simp; omega))))))) (HI1'.out.at_ (by (repeat (first | with_reducible assumption | with_reducible exact Below.refl _ _ | with_reducible refine Below.drew ?_ | with_reducible refine belowDrewN ?_ _ | ((with_reducible refine Below.setCell ?_ ?_ _); rotate_left; focus (first | omega | (simp; done) | (simp; omega))) | ((with_reducible refine Below.alloc ?_ ?_ _); rotate_left; focus (first | omega | (simp; done) | (simp; omega))) | ((with_reducible refine Below.trans ?_ (Below.mono hb1 ?_)); rotate_left; focus (first | omega | (simp; done) | (simp; omega))) | ((with_reducible refine Below.trans ?_ (Below.mono hb2 ?_)); rotate_left; focus (first | omega | (simp; done) | (simp; omega))) | ((with_reducible refine Below.trans ?_ (Below.mono hb3 ?_)); rotate_left; focus (first | omega | (simp; done) | (simp; omega)))))))).mono ?_); rintro e w1 ⟨rfl, hb1⟩; obtain ⟨hc1, hf1⟩ := bcell hb1; have hz1 := hb1.size; (try simp only [World.size_alloc, World.size_setCell, World.size_drew, sizeDrewN] at hz1 hc1 hf1); have hp1 : b < w1.heap.size := (by omega); have hp1' : b' < w1.heap.size := (by omega); have hs1 : (w1.cell? ⟨b, off + j * 12, none⟩ = some (.int .i64 k1) ∧ w1.cell? ⟨b, off + j * 12 + 1, none⟩ = some (.int .i64 n1) ∧ w1.cell? ⟨b, off + j * 12 + 2, none⟩ = some (.string s1) ∧ w1.cell? ⟨b, off + j * 12 + 3, none⟩ = some (.slice xa1 x1.length xc1) ∧ w1.cell? ⟨b, off + j * 12 + 4, none⟩ = some (.slice a1 ms1.length cap1) ∧ w1.cell? ⟨b, off + j * 12 + 5, none⟩ = some (.int .i64 D) ∧ w1.cell? ⟨b, off + j * 12 + 6, none⟩ = some (.int .i64 k2) ∧ w1.cell? ⟨b, off + j * 12 + 7, none⟩ = some (.int .i64 n2) ∧ w1.cell? ⟨b, off + j * 12 + 8, none⟩ = some (.string s2) ∧ w1.cell? ⟨b, off + j * 12 + 9, none⟩ = some (.slice xa2 x2.length xc2) ∧ w1.cell? ⟨b, off + j * 12 + 10, none⟩ = some (.slice a2 ms2.length cap2) ∧ w1.cell? ⟨b, off + j * 12 + 11, none⟩ = some (.slice a3 ms3.length cap3) ∧ w1.cell? ⟨b', off' + j * 12, none⟩ = some (.int .i64 k1') ∧ w1.cell? ⟨b', off' + j * 12 + 1, none⟩ = some (.int .i64 n1') ∧ w1.cell? ⟨b', off' + j * 12 + 2, none⟩ = some (.string s1') ∧ w1.cell? ⟨b', off' + j * 12 + 3, none⟩ = some (.slice xa1' x1'.length xc1') ∧ w1.cell? ⟨b', off' + j * 12 + 4, none⟩ = some (.slice a1' ms1'.length cap1') ∧ w1.cell? ⟨b', off' + j * 12 + 5, none⟩ = some (.int .i64 D') ∧ w1.cell? ⟨b', off' + j * 12 + 6, none⟩ = some (.int .i64 k2') ∧ w1.cell? ⟨b', off' + j * 12 + 7, none⟩ = some (.int .i64 n2') ∧ w1.cell? ⟨b', off' + j * 12 + 8, none⟩ = some (.string s2') ∧ w1.cell? ⟨b', off' + j * 12 + 9, none⟩ = some (.slice xa2' x2'.length xc2') ∧ w1.cell? ⟨b', off' + j * 12 + 10, none⟩ = some (.slice a2' ms2'.length cap2') ∧ w1.cell? ⟨b', off' + j * 12 + 11, none⟩ = some (.slice a3' ms3'.length cap3')) := (by first | (simp (disch := omega) only [hc1, hs3, and_self, go_sem, World.cell?_drew]; done) | (simp (disch := omega) only [hc1, hs2, and_self, go_sem, World.cell?_drew]; done) | (simp (disch := omega) only [hc1, hs0, and_self, go_sem, World.cell?_drew]; done))
                refine hK.out _ _ (by (try dsimp only); first | exact hs1 | (first | (with_reducible exact hs0) | (with_reducible exact hs1) | (with_reducible exact hs2) | (with_reducible exact hs3) | (simp only [World.cell?_drew]; first | (with_reducible exact hs0) | (with_reducible exact hs1) | (with_reducible exact hs2) | (with_reducible exact hs3)))) (fun hHeld => ?_)
                clear hK K
                (try simp only [Act.put, List.setIfInBounds_toArray, List.set_cons_zero, List.set_cons_succ])
                refine wpAnyH_take (i := 23) (oi := ?oo223) (v := ?vv223) ?hi223 (by kernel_rfl) (by kernel_rfl) (by kernel_rfl) ?hq223 ?hw223 (by assumption) ?rest223
                case hi223 => (simp only [List.getElem?_toArray, List.getElem?_cons_succ, List.getElem?_cons_zero]; rfl)
                case hq223 => exact fun _ _ _ h => h
                case hw223 => (refine Or.inl ⟨by rfl, ?_⟩; intro w hSw; (try dsimp only at hSw); go_simp; try with_reducible rfl)
                (try simp only [Act.put, List.setIfInBounds_toArray, List.set_cons_zero, List.set_cons_succ])
                refine wpAnyH_take (i := 24) (oi := ?oo224) (v := ?vv224) ?hi224 (by kernel_rfl) (by kernel_rfl) (by kernel_rfl) ?hq224 ?hw224 (by assumption) ?rest224
                case hi224 => (simp only [List.getElem?_toArray, List.getElem?_cons_succ, List.getElem?_cons_zero]; rfl)
                case hq224 => exact fun _ _ _ h => h
                case hw224 => (refine Or.inl ⟨by rfl, ?_⟩; intro w hSw; (try dsimp only at hSw); go_simp; try with_reducible rfl)
                (try simp only [Act.put, List.setIfInBounds_toArray, List.set_cons_zero, List.set_cons_succ])
                refine wpAnyH_take (i := 25) (oi := ?oo225) (v := ?vv225) ?hi225 (by kernel_rfl) (by kernel_rfl) (by kernel_rfl) ?hq225 ?hw225 (by assumption) ?rest225
                case hi225 => (simp only [List.getElem?_toArray, List.getElem?_cons_succ, List.getElem?_cons_zero]; rfl)
                case hq225 => exact fun _ _ _ h => h
                case hw225 => (refine Or.inl ⟨by rfl, ?_⟩; intro w hSw; (try dsimp only at hSw); go_simp; try with_reducible rfl)
                (try simp only [Act.put, List.setIfInBounds_toArray, List.set_cons_zero, List.set_cons_succ])
                refine wpAnyH_take (i := 26) (oi := ?oo226) (v := ?vv226) ?hi226 (by kernel_rfl) (by kernel_rfl) (by kernel_rfl) ?hq226 ?hw226 (by assumption) ?rest226
                case hi226 => (simp only [List.getElem?_toArray, List.getElem?_cons_succ, List.getElem?_cons_zero]; rfl)
                case hq226 => exact fun _ _ _ h => h
                case hw226 => (refine Or.inl ⟨by rfl, ?_⟩; intro w hSw; (try dsimp only at hSw); go_simp; try with_reducible rfl)
                (try simp only [Act.put, List.setIfInBounds_toArray, List.set_cons_zero, List.set_cons_succ])
                refine wpAnyH_take (i := 27) (oi := ?oo227) (v := ?vv227) ?hi227 (by kernel_rfl) (by kernel_rfl) (by kernel_rfl) ?hq227 ?hw227 (by assumption) ?rest227
                case hi227 => (simp only [List.getElem?_toArray, List.getElem?_cons_succ, List.getElem?_cons_zero]; rfl)
                case hq227 => exact fun _ _ _ h => h
                case hw227 => (refine Or.inl ⟨by rfl, ?_⟩; intro w hSw; (try dsimp only at hSw); go_simp; try with_reducible rfl)
                (try simp only [Act.put, List.setIfInBounds_toArray, List.set_cons_zero, List.set_cons_succ])
                refine wpAnyH_take (i := 28) (oi := ?oo228) (v := ?vv228) ?hi228 (by kernel_rfl) (by kernel_rfl) (by kernel_rfl) ?hq228 ?hw228 (by assumption) ?rest228
                case hi228 => (simp only [List.getElem?_toArray, List.getElem?_cons_succ, List.getElem?_cons_zero]; rfl)
                case hq228 => exact fun _ _ _ h => h
                case hw228 => (refine Or.inl ⟨by rfl, ?_⟩; intro w hSw; (try dsimp only at hSw); go_simp; try with_reducible rfl)
                (try simp only [Act.put, List.setIfInBounds_toArray, List.set_cons_zero, List.set_cons_succ])
                refine wpAnyH_take (i := 29) (oi := ?oo229) (v := ?vv229) ?hi229 (by kernel_rfl) (by kernel_rfl) (by kernel_rfl) ?hq229 ?hw229 (by assumption) ?rest229
                case hi229 => (simp only [List.getElem?_toArray, List.getElem?_cons_succ, List.getElem?_cons_zero]; rfl)
                case hq229 => exact fun _ _ _ h => h
                case hw229 => (refine Or.inl ⟨by rfl, ?_⟩; intro w hSw; (try dsimp only at hSw); go_simp; try with_reducible rfl)
                (try simp only [Act.put, List.setIfInBounds_toArray, List.set_cons_zero, List.set_cons_succ])
                refine wpAnyH_take (i := 30) (oi := ?oo230) (v := ?vv230) ?hi230 (by kernel_rfl) (by kernel_rfl) (by kernel_rfl) ?hq230 ?hw230 (by assumption) ?rest230
                case hi230 => (simp only [List.getElem?_toArray, List.getElem?_cons_succ, List.getElem?_cons_zero]; rfl)
                case hq230 => exact fun _ _ _ h => h
                case hw230 => (refine Or.inl ⟨by rfl, ?_⟩; intro w hSw; (try dsimp only at hSw); go_simp; try with_reducible rfl)
                (try simp only [Act.put, List.setIfInBounds_toArray, List.set_cons_zero, List.set_cons_succ])
                refine wpAnyH_take (i := 31) (oi := ?oo231) (v := ?vv231) ?hi231 (by kernel_rfl) (by kernel_rfl) (by kernel_rfl) ?hq231 ?hw231 (by assumption) ?rest231
                case hi231 => (simp only [List.getElem?_toArray, List.getElem?_cons_succ, List.getElem?_cons_zero]; rfl)
                case hq231 => exact fun _ _ _ h => h
                case hw231 => (refine Or.inl ⟨by rfl, ?_⟩; intro w hSw; (try dsimp only at hSw); go_simp; try with_reducible rfl)
                (try simp only [Act.put, List.setIfInBounds_toArray, List.set_cons_zero, List.set_cons_succ])
                refine wpAnyH_take (i := 32) (oi := ?oo232) (v := ?vv232) ?hi232 (by kernel_rfl) (by kernel_rfl) (by kernel_rfl) ?hq232 ?hw232 (by assumption) ?rest232
                case hi232 => (simp only [List.getElem?_toArray, List.getElem?_cons_succ, List.getElem?_cons_zero]; rfl)
                case hq232 => exact fun _ _ _ h => h
                case hw232 => (refine Or.inl ⟨by rfl, ?_⟩; intro w hSw; (try dsimp only at hSw); go_simp; try with_reducible rfl)
                (try simp only [Act.put, List.setIfInBounds_toArray, List.set_cons_zero, List.set_cons_succ])
                refine wpAnyH_take (i := 33) (oi := ?oo233) (v := ?vv233) ?hi233 (by kernel_rfl) (by kernel_rfl) (by kernel_rfl) ?hq233 ?hw233 (by assumption) ?rest233
                case hi233 => (simp only [List.getElem?_toArray, List.getElem?_cons_succ, List.getElem?_cons_zero]; rfl)
                case hq233 => exact fun _ _ _ h => h
                case hw233 => (refine Or.inl ⟨by rfl, ?_⟩; intro w hSw; (try dsimp only at hSw); go_simp; try with_reducible rfl)
                (try simp only [Act.put, List.setIfInBounds_toArray, List.set_cons_zero, List.set_cons_succ])
                refine wpAnyH_take (i := 34) (oi := ?oo234) (v := ?vv234) ?hi234 (by kernel_rfl) (by kernel_rfl) (by kernel_rfl) ?hq234 ?hw234 (by assumption) ?rest234
                case hi234 => (simp only [List.getElem?_toArray, List.getElem?_cons_succ, List.getElem?_cons_zero]; rfl)
                case hq234 => exact fun _ _ _ h => h
                case hw234 => (refine Or.inl ⟨by rfl, ?_⟩; intro w hSw; (try dsimp only at hSw); go_simp; try with_reducible rfl)
                (try simp only [Act.put, List.setIfInBounds_toArray, List.set_cons_zero, List.set_cons_succ])
                refine wpAnyH_take (i := 35) (oi := ?oo235) (v := ?vv235) ?hi235 (by kernel_rfl) (by kernel_rfl) (by kernel_rfl) ?hq235 ?hw235 (by assumption) ?rest235
                case hi235 => (simp only [List.getElem?_toArray, List.getElem?_cons_succ, List.getElem?_cons_zero]; rfl)
                case hq235 => exact fun _ _ _ h => h
                case hw235 => (refine Or.inl ⟨by rfl, ?_⟩; intro w hSw; (try dsimp only at hSw); go_simp; try with_reducible rfl)
                (try simp only [Act.put, List.setIfInBounds_toArray, List.set_cons_zero, List.set_cons_succ])
                refine wpAnyH_ready (rs := [36]) (by kernel_rfl) (by simp) ?_
                refine AllReadyH.cons (o := _) rfl (fun K hK => ?_) AllReadyH.nil
                go_simp
                go_at_call 27; (with_reducible refine (HF.out _ (HI2.out.at_ (by (repeat (first | with_reducible assumption | with_reducible exact Below.refl _ _ | with_reducible refine Below.drew ?_ | with_reducible refine belowDrewN ?_ _ | ((with_reducible refine Below.setCell ?_ ?_ _); rotate_left; focus (first | omega | (simp; done) | (simp; omega))) | ((with_reducible refine Below.alloc ?_ ?_ _); rotate_left; focus (first | omega | (simp; done) | (simp; omega))) | ((with_reducible refine Below.trans ?_ (Below.mono hb1 ?_)); rotate_left; focus (first | omega | (simp; done) | (simp; omega))) | ((with_reducible refine Below.trans ?_ (Below.mono hb2 ?_)); rotate_left; focus (first | omega | (simp; done) | (simp; omega))) | ((with_reducible refine Below.trans ?_ (Below.mono hb3 ?_)); rotate_left; focus (first | omega | (simp; done) | (simp; omega))))))) (HI2'.out.at_ (by (repeat (first | with_reducible assumption | with_reducible exact Below.refl _ _ | with_reducible refine Below.drew ?_ | with_reducible refine belowDrewN ?_ _ | ((with_reducible refine Below.setCell ?_ ?_ _); rotate_left; focus (first | omega | (simp; done) | (simp; omega))) | ((with_reducible refine Below.alloc ?_ ?_ _); rotate_left; focus (first | omega | (simp; done) | (simp; omega))) | ((with_reducible refine Below.trans ?_ (Below.mono hb1 ?_)); rotate_left; focus (first | omega | (simp; done) | (simp; omega))) | ((with_reducible refine Below.trans ?_ (Below.mono hb2 ?_)); rotate_left; focus (first | omega | (simp; done) | (simp; omega))) | ((with_reducible refine Below.trans ?_ (Below.mono hb3 ?_)); rotate_left; focus (first | omega | (simp; done) | (simp; omega)))))))).mono ?_); rintro e w2 ⟨rfl, hb2⟩; obtain ⟨hc2, hf2⟩ := bcell hb2; have hz2 := hb2.size; (try simp only [World.size_alloc, World.size_setCell, World.size_drew, sizeDrewN] at hz2 hc2 hf2); have hp2 : b < w2.heap.size := (by omega); have hp2' : b' < w2.heap.size := (by omega); have hs2 : (w2.cell? ⟨b, off + j * 12, none⟩ = some (.int .i64 k1) ∧ w2.cell? ⟨b, off + j * 12 + 1, none⟩ = some (.int .i64 n1) ∧ w2.cell? ⟨b, off + j * 12 + 2, none⟩ = some (.string s1) ∧ w2.cell? ⟨b, off + j * 12 + 3, none⟩ = some (.slice xa1 x1.length xc1) ∧ w2.cell? ⟨b, off + j * 12 + 4, none⟩ = some (.slice a1 ms1.length cap1) ∧ w2.cell? ⟨b, off + j * 12 + 5, none⟩ = some (.int .i64 D) ∧ w2.cell? ⟨b, off + j * 12 + 6, none⟩ = some (.int .i64 k2) ∧ w2.cell? ⟨b, off + j * 12 + 7, none⟩ = some (.int .i64 n2) ∧ w2.cell? ⟨b, off + j * 12 + 8, none⟩ = some (.string s2) ∧ w2.cell? ⟨b, off + j * 12 + 9, none⟩ = some (.slice xa2 x2.length xc2) ∧ w2.cell? ⟨b, off + j * 12 + 10, none⟩ = some (.slice a2 ms2.length cap2) ∧ w2.cell? ⟨b, off + j * 12 + 11, none⟩ = some (.slice a3 ms3.length cap3) ∧ w2.cell? ⟨b', off' + j * 12, none⟩ = some (.int .i64 k1') ∧ w2.cell? ⟨b', off' + j * 12 + 1, none⟩ = some (.int .i64 n1') ∧ w2.cell? ⟨b', off' + j * 12 + 2, none⟩ = some (.string s1') ∧ w2.cell? ⟨b', off' + j * 12 + 3, none⟩ = some (.slice xa1' x1'.length xc1') ∧ w2.cell? ⟨b', off' + j * 12 + 4, none⟩ = some (.slice a1' ms1'.length cap1') ∧ w2.cell? ⟨b', off' + j * 12 + 5, none⟩ = some (.int .i64 D') ∧ w2.cell? ⟨b', off' + j * 12 + 6, none⟩ = some (.int .i64 k2') ∧ w2.cell? ⟨b', off' + j * 12 + 7, none⟩ = some (.int .i64 n2') ∧ w2.cell? ⟨b', off' + j * 12 + 8, none⟩ = some (.string s2') ∧ w2.cell? ⟨b', off' + j * 12 + 9, none⟩ = some (.slice xa2' x2'.length xc2') ∧ w2.cell? ⟨b', off' + j * 12 + 10, none⟩ = some (.slice a2' ms2'.length cap2') ∧ w2.cell? ⟨b', off' + j * 12 + 11, none⟩ = some (.slice a3' ms3'.length cap3')) := (by first | (simp (disch := omega) only [hc2, hs3, and_self, go_sem, World.cell?_drew]; done) | (simp (disch := omega) only [hc2, hs1, and_self, go_sem, World.cell?_drew]; done) | (simp (disch := omega) only [hc2, hs0, and_self, go_sem, World.cell?_drew]; done))
                refine hK.out _ _ (by (try dsimp only); first | exact hs2 | (first | (with_reducible exact hs0) | (with_reducible exact hs1) | (with_reducible exact hs2) | (with_reducible exact hs3) | (simp only [World.cell?_drew]; first | (with_reducible exact hs0) | (with_reducible exact hs1) | (with_reducible exact hs2) | (with_reducible exact hs3)))) (fun hHeld => ?_)
                clear hK K
                (try simp only [Act.put, List.setIfInBounds_toArray, List.set_cons_zero, List.set_cons_succ])
                refine wpAnyH_take (i := 37) (oi := ?oo236) (v := ?vv236) ?hi236 (by kernel_rfl) (by kernel_rfl) (by kernel_rfl) ?hq236 ?hw236 (by assumption) ?rest236
                case hi236 => (simp only [List.getElem?_toArray, List.getElem?_cons_succ, List.getElem?_cons_zero]; rfl)
                case hq236 => exact fun _ _ _ h => h
                case hw236 => (refine Or.inl ⟨by rfl, ?_⟩; intro w hSw; (try dsimp only at hSw); go_simp; try with_reducible rfl)
                (try simp only [Act.put, List.setIfInBounds_toArray, List.set_cons_zero, List.set_cons_succ])
                refine wpAnyH_take (i := 38) (oi := ?oo237) (v := ?vv237) ?hi237 (by kernel_rfl) (by kernel_rfl) (by kernel_rfl) ?hq237 ?hw237 (by assumption) ?rest237
                case hi237 => (simp only [List.getElem?_toArray, List.getElem?_cons_succ, List.getElem?_cons_zero]; rfl)
                case hq237 => exact fun _ _ _ h => h
                case hw237 => (refine Or.inl ⟨by rfl, ?_⟩; intro w hSw; (try dsimp only at hSw); go_simp; try with_reducible rfl)
                (try simp only [Act.put, List.setIfInBounds_toArray, List.set_cons_zero, List.set_cons_succ])
                refine wpAnyH_take (i := 39) (oi := ?oo238) (v := ?vv238) ?hi238 (by kernel_rfl) (by kernel_rfl) (by kernel_rfl) ?hq238 ?hw238 (by assumption) ?rest238
                case hi238 => (simp only [List.getElem?_toArray, List.getElem?_cons_succ, List.getElem?_cons_zero]; rfl)
                case hq238 => exact fun _ _ _ h => h
                case hw238 => (refine Or.inl ⟨by rfl, ?_⟩; intro w hSw; (try dsimp only at hSw); go_simp; try with_reducible rfl)
                (try simp only [Act.put, List.setIfInBounds_toArray, List.set_cons_zero, List.set_cons_succ])
                refine wpAnyH_take (i := 40) (oi := ?oo239) (v := ?vv239) ?hi239 (by kernel_rfl) (by kernel_rfl) (by kernel_rfl) ?hq239 ?hw239 (by assumption) ?rest239
                case hi239 => (simp only [List.getElem?_toArray, List.getElem?_cons_succ, List.getElem?_cons_zero]; rfl)
                case hq239 => exact fun _ _ _ h => h
                case hw239 => (refine Or.inl ⟨by rfl, ?_⟩; intro w hSw; (try dsimp only at hSw); go_simp; try with_reducible rfl)
                (try simp only [Act.put, List.setIfInBounds_toArray, List.set_cons_zero, List.set_cons_succ])
                refine wpAnyH_take (i := 41) (oi := ?oo240) (v := ?vv240) ?hi240 (by kernel_rfl) (by kernel_rfl) (by kernel_rfl) ?hq240 ?hw240 (by assumption) ?rest240
                case hi240 => (simp only [List.getElem?_toArray, List.getElem?_cons_succ, List.getElem?_cons_zero]; rfl)
                case hq240 => exact fun _ _ _ h => h
                case hw240 => (refine Or.inl ⟨by rfl, ?_⟩; intro w hSw; (try dsimp only at hSw); go_simp; try with_reducible rfl)
                (try simp only [Act.put, List.setIfInBounds_toArray, List.set_cons_zero, List.set_cons_succ])
                refine wpAnyH_take (i := 42) (oi := ?oo241) (v := ?vv241) ?hi241 (by kernel_rfl) (by kernel_rfl) (by kernel_rfl) ?hq241 ?hw241 (by assumption) ?rest241
                case hi241 => (simp only [List.getElem?_toArray, List.getElem?_cons_succ, List.getElem?_cons_zero]; rfl)
                case hq241 => exact fun _ _ _ h => h
                case hw241 => (refine Or.inl ⟨by rfl, ?_⟩; intro w hSw; (try dsimp only at hSw); go_simp; try with_reducible rfl)
                (try simp only [Act.put, List.setIfInBounds_toArray, List.set_cons_zero, List.set_cons_succ])
                refine wpAnyH_take (i := 43) (oi := ?oo242) (v := ?vv242) ?hi242 (by kernel_rfl) (by kernel_rfl) (by kernel_rfl) ?hq242 ?hw242 (by assumption) ?rest242
                case hi242 => (simp only [List.getElem?_toArray, List.getElem?_cons_succ, List.getElem?_cons_zero]; rfl)
                case hq242 => exact fun _ _ _ h => h
                case hw242 => (refine Or.inl ⟨by rfl, ?_⟩; intro w hSw; (try dsimp only at hSw); go_simp; try with_reducible rfl)
                (try simp only [Act.put, List.setIfInBounds_toArray, List.set_cons_zero, List.set_cons_succ])
                refine wpAnyH_take (i := 44) (oi := ?oo243) (v := ?vv243) ?hi243 (by kernel_rfl) (by kernel_rfl) (by kernel_rfl) ?hq243 ?hw243 (by assumption) ?rest243
                case hi243 => (simp only [List.getElem?_toArray, List.getElem?_cons_succ, List.getElem?_cons_zero]; rfl)
                case hq243 => exact fun _ _ _ h => h
                case hw243 => (refine Or.inl ⟨by rfl, ?_⟩; intro w hSw; (try dsimp only at hSw); go_simp; try with_reducible rfl)
                (try simp only [Act.put, List.setIfInBounds_toArray, List.set_cons_zero, List.set_cons_succ])
                refine wpAnyH_take (i := 45) (oi := ?oo244) (v := ?vv244) ?hi244 (by kernel_rfl) (by kernel_rfl) (by kernel_rfl) ?hq244 ?hw244 (by assumption) ?rest244
                case hi244 => (simp only [List.getElem?_toArray, List.getElem?_cons_succ, List.getElem?_cons_zero]; rfl)
                case hq244 => exact fun _ _ _ h => h
                case hw244 => (refine Or.inl ⟨by rfl, ?_⟩; intro w hSw; (try dsimp only at hSw); go_simp; try with_reducible rfl)
                (try simp only [Act.put, List.setIfInBounds_toArray, List.set_cons_zero, List.set_cons_succ])
                refine wpAnyH_take (i := 46) (oi := ?oo245) (v := ?vv245) ?hi245 (by kernel_rfl) (by kernel_rfl) (by kernel_rfl) ?hq245 ?hw245 (by assumption) ?rest245
                case hi245 => (simp only [List.getElem?_toArray, List.getElem?_cons_succ, List.getElem?_cons_zero]; rfl)
                case hq245 => exact fun _ _ _ h => h
                case hw245 => (refine Or.inl ⟨by rfl, ?_⟩; intro w hSw; (try dsimp only at hSw); go_simp; try with_reducible rfl)
                (try simp only [Act.put, List.setIfInBounds_toArray, List.set_cons_zero, List.set_cons_succ])
                refine wpAnyH_take (i := 47) (oi := ?oo246) (v := ?vv246) ?hi246 (by kernel_rfl) (by kernel_rfl) (by kernel_rfl) ?hq246 ?hw246 (by assumption) ?rest246
                case hi246 => (simp only [List.getElem?_toArray, List.getElem?_cons_succ, List.getElem?_cons_zero]; rfl)
                case hq246 => exact fun _ _ _ h => h
                case hw246 => (refine Or.inl ⟨by rfl, ?_⟩; intro w hSw; (try dsimp only at hSw); go_simp; try with_reducible rfl)
                (try simp only [Act.put, List.setIfInBounds_toArray, List.set_cons_zero, List.set_cons_succ])
                refine wpAnyH_take (i := 48) (oi := ?oo247) (v := ?vv247) ?hi247 (by kernel_rfl) (by kernel_rfl) (by kernel_rfl) ?hq247 ?hw247 (by assumption) ?rest247
                case hi247 => (simp only [List.getElem?_toArray, List.getElem?_cons_succ, List.getElem?_cons_zero]; rfl)
                case hq247 => exact fun _ _ _ h => h
                case hw247 => (refine Or.inl ⟨by rfl, ?_⟩; intro w hSw; (try dsimp only at hSw); go_simp; try with_reducible rfl)
                (try simp only [Act.put, List.setIfInBounds_toArray, List.set_cons_zero, List.set_cons_succ])
                refine wpAnyH_take (i := 49) (oi := ?oo248) (v := ?vv248) ?hi248 (by kernel_rfl) (by kernel_rfl) (by kernel_rfl) ?hq248 ?hw248 (by assumption) ?rest248
                case hi248 => (simp only [List.getElem?_toArray, List.getElem?_cons_succ, List.getElem?_cons_zero]; rfl)
                case hq248 => exact fun _ _ _ h => h
                case hw248 => (refine Or.inl ⟨by rfl, ?_⟩; intro w hSw; (try dsimp only at hSw); go_simp; try with_reducible rfl)
                (try simp only [Act.put, List.setIfInBounds_toArray, List.set_cons_zero, List.set_cons_succ])
                refine wpAnyH_ready (rs := [50]) (by kernel_rfl) (by simp) ?_
                refine AllReadyH.cons (o := _) rfl (fun K hK => ?_) AllReadyH.nil
                go_simp
                go_at_call 10; (with_reducible refine (HE.out _ (HIN3.out.below (by (repeat (first | with_reducible assumption | with_reducible exact Below.refl _ _ | with_reducible refine Below.drew ?_ | with_reducible refine belowDrewN ?_ _ | ((with_reducible refine Below.setCell ?_ ?_ _); rotate_left; focus (first | omega | (simp; done) | (simp; omega))) | ((with_reducible refine Below.alloc ?_ ?_ _); rotate_left; focus (first | omega | (simp; done) | (simp; omega))) | ((with_reducible refine Below.trans ?_ (Below.mono hb1 ?_)); rotate_left; focus (first | omega | (simp; done) | (simp; omega))) | ((with_reducible refine Below.trans ?_ (Below.mono hb2 ?_)); rotate_left; focus (first | omega | (simp; done) | (simp; omega))) | ((with_reducible refine Below.trans ?_ (Below.mono hb3 ?_)); rotate_left; focus (first | omega | (simp; done) | (simp; omega))))))) (HIN3'.out.below (by (repeat (first | with_reducible assumption | with_reducible exact Below.refl _ _ | with_reducible refine Below.drew ?_ | with_reducible refine belowDrewN ?_ _ | ((with_reducible refine Below.setCell ?_ ?_ _); rotate_left; focus (first | omega | (simp; done) | (simp; omega))) | ((with_reducible refine Below.alloc ?_ ?_ _); rotate_left; focus (first | omega | (simp; done) | (simp; omega))) | ((with_reducible refine Below.trans ?_ (Below.mono hb1 ?_)); rotate_left; focus (first | omega | (simp; done) | (simp; omega))) | ((with_reducible refine Below.trans ?_ (Below.mono hb2 ?_)); rotate_left; focus (first | omega | (simp; done) | (simp; omega))) | ((with_reducible refine Below.trans ?_ (Below.mono hb3 ?_)); rotate_left; focus (first | omega | (simp; done) | (simp; omega)))))))).mono ?_); rintro e w3 ⟨rfl, hb3⟩; obtain ⟨hc3, hf3⟩ := bcell hb3; have hz3 := hb3.size; (try simp only [World.size_alloc, World.size_setCell, World.size_drew, sizeDrewN] at hz3 hc3 hf3); have hp3 : b < w3.heap.size := (by omega); have hp3' : b' < w3.heap.size := (by omega); have hs3 : (w3.cell? ⟨b, off + j * 12, none⟩ = some (.int .i64 k1) ∧ w3.cell? ⟨b, off + j * 12 + 1, none⟩ = some (.int .i64 n1) ∧ w3.cell? ⟨b, off + j * 12 + 2, none⟩ = some (.string s1) ∧ w3.cell? ⟨b, off + j * 12 + 3, none⟩ = some (.slice xa1 x1.length xc1) ∧ w3.cell? ⟨b, off + j * 12 + 4, none⟩ = some (.slice a1 ms1.length cap1) ∧ w3.cell? ⟨b, off + j * 12 + 5, none⟩ = some (.int .i64 D) ∧ w3.cell? ⟨b, off + j * 12 + 6, none⟩ = some (.int .i64 k2) ∧ w3.cell? ⟨b, off + j * 12 + 7, none⟩ = some (.int .i64 n2) ∧ w3.cell? ⟨b, off + j * 12 + 8, none⟩ = some (.string s2) ∧ w3.cell? ⟨b, off + j * 12 + 9, none⟩ = some (.slice xa2 x2.length xc2) ∧ w3.cell? ⟨b, off + j * 12 + 10, none⟩ = some (.slice a2 ms2.length cap2) ∧ w3.cell? ⟨b, off + j * 12 + 11, none⟩ = some (.slice a3 ms3.length cap3) ∧ w3.cell? ⟨b', off' + j * 12, none⟩ = some (.int .i64 k1') ∧ w3.cell? ⟨b', off' + j * 12 + 1, none⟩ = some (.int .i64 n1') ∧ w3.cell? ⟨b', off' + j * 12 + 2, none⟩ = some (.string s1') ∧ w3.cell? ⟨b', off' + j * 12 + 3, none⟩ = some (.slice xa1' x1'.length xc1') ∧ w3.cell? ⟨b', off' + j * 12 + 4, none⟩ = some (.slice a1' ms1'.length cap1') ∧ w3.cell? ⟨b', off' + j * 12 + 5, none⟩ = some (.int .i64 D') ∧ w3.cell? ⟨b', off' + j * 12 + 6, none⟩ = some (.int .i64 k2') ∧ w3.cell? ⟨b', off' + j * 12 + 7, none⟩ = some (.int .i64 n2') ∧ w3.cell? ⟨b', off' + j * 12 + 8, none⟩ = some (.string s2') ∧ w3.cell? ⟨b', off' + j * 12 + 9, none⟩ = some (.slice xa2' x2'.length xc2') ∧ w3.cell? ⟨b', off' + j * 12 + 10, none⟩ = some (.slice a2' ms2'.length cap2') ∧ w3.cell? ⟨b', off' + j * 12 + 11, none⟩ = some (.slice a3' ms3'.length cap3')) := (by first | (simp (disch := omega) only [hc3, hs2, and_self, go_sem, World.cell?_drew]; done) | (simp (disch := omega) only [hc3, hs1, and_self, go_sem, World.cell?_drew]; done) | (simp (disch := omega) only [hc3, hs0, and_self, go_sem, World.cell?_drew]; done))
                refine hK.out _ _ (by (try dsimp only); first | exact hs3 | (first | (with_reducible exact hs0) | (with_reducible exact hs1) | (with_reducible exact hs2) | (with_reducible exact hs3) | (simp only [World.cell?_drew]; first | (with_reducible exact hs0) | (with_reducible exact hs1) | (with_reducible exact hs2) | (with_reducible exact hs3)))) (fun hHeld => ?_)
                clear hK K
                (try simp only [Act.put, List.setIfInBounds_toArray, List.set_cons_zero, List.set_cons_succ])
                refine wpAnyH_take (i := 51) (oi := ?oo249) (v := ?vv249) ?hi249 (by kernel_rfl) (by kernel_rfl) (by kernel_rfl) ?hq249 ?hw249 (by assumption) ?rest249
                case hi249 => (simp only [List.getElem?_toArray, List.getElem?_cons_succ, List.getElem?_cons_zero]; rfl)
                case hq249 => exact fun _ _ _ h => h
                case hw249 => (refine Or.inl ⟨by rfl, ?_⟩; intro w hSw; (try dsimp only at hSw); go_simp; try with_reducible rfl)
                (try simp only [Act.put, List.setIfInBounds_toArray, List.set_cons_zero, List.set_cons_succ])
                refine wpAnyH_take (i := 52) (oi := ?oo250) (v := ?vv250) ?hi250 (by kernel_rfl) (by kernel_rfl) (by kernel_rfl) ?hq250 ?hw250 (by assumption) ?rest250
                case hi250 => (simp only [List.getElem?_toArray, List.getElem?_cons_succ, List.getElem?_cons_zero]; rfl)
                case hq250 => exact fun _ _ _ h => h
                case hw250 => (refine Or.inl ⟨by rfl, ?_⟩; intro w hSw; (try dsimp only at hSw); go_simp; try with_reducible rfl)
                (try simp only [Act.put, List.setIfInBounds_toArray, List.set_cons_zero, List.set_cons_succ])
                refine wpAnyH_done (by kernel_rfl) ?_ _
                go_wp2_with fail
                go_ret
                exact ⟨ret_b ((capB_not _ _).2 HNE.out).symm, by (repeat (first | with_reducible assumption | with_reducible exact Below.refl _ _ | with_reducible refine Below.drew ?_ | with_reducible refine belowDrewN ?_ _ | ((with_reducible refine Below.setCell ?_ ?_ _); rotate_left; focus (first | omega | (simp; done) | (simp; omega))) | ((with_reducible refine Below.alloc ?_ ?_ _); rotate_left; focus (first | omega | (simp; done) | (simp; omega))) | ((with_reducible refine Below.trans ?_ (Below.mono hb1 ?_)); rotate_left; focus (first | omega | (simp; done) | (simp; omega))) | ((with_reducible refine Below.trans ?_ (Below.mono hb2 ?_)); rotate_left; focus (first | omega | (simp; done) | (simp; omega))) | ((with_reducible refine Below.trans ?_ (Below.mono hb3 ?_)); rotate_left; focus (first | omega | (simp; done) | (simp; omega)))))⟩
            · have hD : (D != D') = false := by simp [heD]
              have hN : ∀ W, (SynOwn 33 xa1 xc1 x1 a1 cap1 ms1).In W → (SynOwn 33 xa1' xc1' x1' a1' cap1' ms1').In W → Calls Try.prog 27 #[.agg #[.int .i64 k1, .int .i64 n1, .string s1, .slice xa1 x1.length xc1, .slice a1 ms1.length cap1], .agg #[.int .i64 k1', .int .i64 n1', .string s1', .slice xa1' x1'.length xc1', .slice a1' ms1'.length cap1']] W (Ret (.bool true) W) := fun W h1 h2 => by
                have h := iEqualSyntax_calls ds1 k1 n1 s1 x1 xa1 xc1 a1 cap1 ms1 k1' n1' s1' x1' xa1' xc1' a1' cap1' ds1' ms1' W hi1.is h1 hi1'.is h2
                rw [(eqSB_iff _ _).2 heN] at h
                exact h
              have hF : ∀ W, (SynOwn 33 xa2 xc2 x2 a2 cap2 ms2).In W → (SynOwn 33 xa2' xc2' x2' a2' cap2' ms2').In W → Calls Try.prog 27 #[.agg #[.int .i64 k2, .int .i64 n2, .string s2, .slice xa2 x2.length xc2, .slice a2 ms2.length cap2], .agg #[.int .i64 k2', .int .i64 n2', .string s2', .slice xa2' x2'.length xc2', .slice a2' ms2'.length cap2']] W (Ret (.bool false) W) := fun W h1 h2 => by
                have h := iEqualSyntax_calls ds2 k2 n2 s2 x2 xa2 xc2 a2 cap2 ms2 k2' n2' s2' x2' xa2' xc2' a2' cap2' ds2' ms2' W hi2.is h1 hi2'.is h2
                rw [(eqSB_not _ _).2 heF] at h
                exact h
              have hne := ne_of_get hd hd' (fun e => heF (by injection e))
              have HI1 := Lib.hid hi1; clear hi1; have HI2 := Lib.hid hi2; clear hi2; have HI3 := Lib.hid hi3; clear hi3; have HIN3 := Lib.hid hin3; clear hin3; have HI1' := Lib.hid hi1'; clear hi1'; have HI2' := Lib.hid hi2'; clear hi2'; have HI3' := Lib.hid hi3'; clear hi3'; have HIN3' := Lib.hid hin3'; clear hin3'; have HD := Lib.hid hd; clear hd; have HD' := Lib.hid hd'; clear hd'; have HPRE := Lib.hid hpre; clear hpre; have HED := Lib.hid heD; clear heD; have HEN := Lib.hid heN; clear heN; have HEF := Lib.hid heF; clear heF; have HN := Lib.hid hN; clear hN; have HF := Lib.hid hF; clear hF; have HNE := Lib.hid hne; clear hne
              go_wp2_with fail
              refine wp_region_held_drew (S := fun w' => (w'.cell? ⟨b, off + j * 12, none⟩ = some (.int .i64 k1) ∧ w'.cell? ⟨b, off + j * 12 + 1, none⟩ = some (.int .i64 n1) ∧ w'.cell? ⟨b, off + j * 12 + 2, none⟩ = some (.string s1) ∧ w'.cell? ⟨b, off + j * 12 + 3, none⟩ = some (.slice xa1 x1.length xc1) ∧ w'.cell? ⟨b, off + j * 12 + 4, none⟩ = some (.slice a1 ms1.length cap1) ∧ w'.cell? ⟨b, off + j * 12 + 5, none⟩ = some (.int .i64 D) ∧ w'.cell? ⟨b, off + j * 12 + 6, none⟩ = some (.int .i64 k2) ∧ w'.cell? ⟨b, off + j * 12 + 7, none⟩ = some (.int .i64 n2) ∧ w'.cell? ⟨b, off + j * 12 + 8, none⟩ = some (.string s2) ∧ w'.cell? ⟨b, off + j * 12 + 9, none⟩ = some (.slice xa2 x2.length xc2) ∧ w'.cell? ⟨b, off + j * 12 + 10, none⟩ = some (.slice a2 ms2.length cap2) ∧ w'.cell? ⟨b, off + j * 12 + 11, none⟩ = some (.slice a3 ms3.length cap3) ∧ w'.cell? ⟨b', off' + j * 12, none⟩ = some (.int .i64 k1') ∧ w'.cell? ⟨b', off' + j * 12 + 1, none⟩ = some (.int .i64 n1') ∧ w'.cell? ⟨b', off' + j * 12 + 2, none⟩ = some (.string s1') ∧ w'.cell? ⟨b', off' + j * 12 + 3, none⟩ = some (.slice xa1' x1'.length xc1') ∧ w'.cell? ⟨b', off' + j * 12 + 4, none⟩ = some (.slice a1' ms1'.length cap1') ∧ w'.cell? ⟨b', off' + j * 12 + 5, none⟩ = some (.int .i64 D') ∧ w'.cell? ⟨b', off' + j * 12 + 6, none⟩ = some (.int .i64 k2') ∧ w'.cell? ⟨b', off' + j * 12 + 7, none⟩ = some (.int .i64 n2') ∧ w'.cell? ⟨b', off' + j * 12 + 8, none⟩ = some (.string s2') ∧ w'.cell? ⟨b', off' + j * 12 + 9, none⟩ = some (.slice xa2' x2'.length xc2') ∧ w'.cell? ⟨b', off' + j * 12 + 10, none⟩ = some (.slice a2' ms2'.length cap2') ∧ w'.cell? ⟨b', off' + j * 12 + 11, none⟩ = some (.slice a3' ms3'.length cap3'))) (by kernel_rfl) ?_ (fun hHeld => ?_)
              · (first | (with_reducible exact hs0) | (with_reducible exact hs1) | (with_reducible exact hs2) | (simp only [World.cell?_drew]; first | (with_reducible exact hs0) | (with_reducible exact hs1) | (with_reducible exact hs2)))
              refine wpAnyH_take (i := 0) (oi := ?oo251) (v := ?vv251) ?hi251 (by kernel_rfl) (by kernel_rfl) (by kernel_rfl) ?hq251 ?hw251 (by assumption) ?rest251
              case hi251 => (simp only [List.getElem?_toArray, List.getElem?_cons_succ, List.getElem?_cons_zero]; rfl)
              case hq251 => exact fun _ _ _ h => h
              case hw251 => (refine Or.inl ⟨by rfl, ?_⟩; intro w hSw; (try dsimp only at hSw); go_simp; try with_reducible rfl)
              (try simp only [Act.put, List.setIfInBounds_toArray, List.set_cons_zero, List.set_cons_succ])
              refine wpAnyH_take (i := 1) (oi := ?oo252) (v := ?vv252) ?hi252 (by kernel_rfl) (by kernel_rfl) (by kernel_rfl) ?hq252 ?hw252 (by assumption) ?rest252
              case hi252 => (simp only [List.getElem?_toArray, List.getElem?_cons_succ, List.getElem?_cons_zero]; rfl)
              case hq252 => exact fun _ _ _ h => h
              case hw252 => (refine Or.inl ⟨by rfl, ?_⟩; intro w hSw; (try dsimp only at hSw); go_simp; try with_reducible rfl)
              (try simp only [Act.put, List.setIfInBounds_toArray, List.set_cons_zero, List.set_cons_succ])
              refine wpAnyH_take (i := 2) (oi := ?oo253) (v := ?vv253) ?hi253 (by kernel_rfl) (by kernel_rfl) (by kernel_rfl) ?hq253 ?hw253 (by assumption) ?rest253
              case hi253 => (simp only [List.getElem?_toArray, List.getElem?_cons_succ, List.getElem?_cons_zero]; rfl)
              case hq253 => exact fun _ _ _ h => h
              case hw253 => (refine Or.inl ⟨by rfl, ?_⟩; intro w hSw; (try dsimp only at hSw); go_simp; try with_reducible rfl)
              (try simp only [Act.put, List.setIfInBounds_toArray, List.set_cons_zero, List.set_cons_succ])
              refine wpAnyH_take (i := 3) (oi := ?oo254) (v := ?vv254) ?hi254 (by kernel_rfl) (by kernel_rfl) (by kernel_rfl) ?hq254 ?hw254 (by assumption) ?rest254
              case hi254 => (simp only [List.getElem?_toArray, List.getElem?_cons_succ, List.getElem?_cons_zero]; rfl)
              case hq254 => exact fun _ _ _ h => h
              case hw254 => (refine Or.inl ⟨by rfl, ?_⟩; intro w hSw; (try dsimp only at hSw); go_simp; try with_reducible rfl)
              (try simp only [Act.put, List.setIfInBounds_toArray, List.set_cons_zero, List.set_cons_succ])
              refine wpAnyH_take (i := 4) (oi := ?oo255) (v := ?vv255) ?hi255 (by kernel_rfl) (by kernel_rfl) (by kernel_rfl) ?hq255 ?hw255 (by assumption) ?rest255
              case hi255 => (simp only [List.getElem?_toArray, List.getElem?_cons_succ, List.getElem?_cons_zero]; rfl)
              case hq255 => exact fun _ _ _ h => h
              case hw255 => (refine Or.inl ⟨by rfl, ?_⟩; intro w hSw; (try dsimp only at hSw); go_simp; try with_reducible rfl)
              (try simp only [Act.put, List.setIfInBounds_toArray, List.set_cons_zero, List.set_cons_succ])
              refine wpAnyH_take (i := 5) (oi := ?oo256) (v := ?vv256) ?hi256 (by kernel_rfl) (by kernel_rfl) (by kernel_rfl) ?hq256 ?hw256 (by assumption) ?rest256
              case hi256 => (simp only [List.getElem?_toArray, List.getElem?_cons_succ, List.getElem?_cons_zero]; rfl)
              case hq256 => exact fun _ _ _ h => h
              case hw256 => (refine Or.inl ⟨by rfl, ?_⟩; intro w hSw; (try dsimp only at hSw); go_simp; try with_reducible rfl)
              (try simp only [Act.put, List.setIfInBounds_toArray, List.set_cons_zero, List.set_cons_succ])
              refine wpAnyH_take (i := 6) (oi := ?oo257) (v := ?vv257) ?hi257 (by kernel_rfl) (by kernel_rfl) (by kernel_rfl) ?hq257 ?hw257 (by assumption) ?rest257
              case hi257 => (simp only [List.getElem?_toArray, List.getElem?_cons_succ, List.getElem?_cons_zero]; rfl)
              case hq257 => exact fun _ _ _ h => h
              case hw257 => (refine Or.inl ⟨by rfl, ?_⟩; intro w hSw; (try dsimp only at hSw); go_simp; try with_reducible rfl)
              (try simp only [Act.put, List.setIfInBounds_toArray, List.set_cons_zero, List.set_cons_succ])
              refine wpAnyH_take (i := 7) (oi := ?oo258) (v := ?vv258) ?hi258 (by kernel_rfl) (by kernel_rfl) (by kernel_rfl) ?hq258 ?hw258 (by assumption) ?rest258
              case hi258 => (simp only [List.getElem?_toArray, List.getElem?_cons_succ, List.getElem?_cons_zero]; rfl)
              case hq258 => exact fun _ _ _ h => h
              case hw258 => (refine Or.inl ⟨by rfl, ?_⟩; intro w hSw; (try dsimp only at hSw); go_simp; try with_reducible rfl)
              (try simp only [Act.put, List.setIfInBounds_toArray, List.set_cons_zero, List.set_cons_succ])
              refine wpAnyH_take (i := 8) (oi := ?oo259) (v := ?vv259) ?hi259 (by kernel_rfl) (by kernel_rfl) (by kernel_rfl) ?hq259 ?hw259 (by assumption) ?rest259
              case hi259 => (simp only [List.getElem?_toArray, List.getElem?_cons_succ, List.getElem?_cons_zero]; rfl)
              case hq259 => exact fun _ _ _ h => h
              case hw259 => (refine Or.inl ⟨by rfl, ?_⟩; intro w hSw; (try dsimp only at hSw); go_simp; try with_reducible rfl)
              (try simp only [Act.put, List.setIfInBounds_toArray, List.set_cons_zero, List.set_cons_succ])
              refine wpAnyH_take (i := 9) (oi := ?oo260) (v := ?vv260) ?hi260 (by kernel_rfl) (by kernel_rfl) (by kernel_rfl) ?hq260 ?hw260 (by assumption) ?rest260
              case hi260 => (simp only [List.getElem?_toArray, List.getElem?_cons_succ, List.getElem?_cons_zero]; rfl)
              case hq260 => exact fun _ _ _ h => h
              case hw260 => (refine Or.inl ⟨by rfl, ?_⟩; intro w hSw; (try dsimp only at hSw); go_simp; try with_reducible rfl)
              (try simp only [Act.put, List.setIfInBounds_toArray, List.set_cons_zero, List.set_cons_succ])
              refine wpAnyH_take (i := 10) (oi := ?oo261) (v := ?vv261) ?hi261 (by kernel_rfl) (by kernel_rfl) (by kernel_rfl) ?hq261 ?hw261 (by assumption) ?rest261
              case hi261 => (simp only [List.getElem?_toArray, List.getElem?_cons_succ, List.getElem?_cons_zero]; rfl)
              case hq261 => exact fun _ _ _ h => h
              case hw261 => (refine Or.inl ⟨by rfl, ?_⟩; intro w hSw; (try dsimp only at hSw); go_simp; try with_reducible rfl)
              (try simp only [Act.put, List.setIfInBounds_toArray, List.set_cons_zero, List.set_cons_succ])
              refine wpAnyH_take (i := 11) (oi := ?oo262) (v := ?vv262) ?hi262 (by kernel_rfl) (by kernel_rfl) (by kernel_rfl) ?hq262 ?hw262 (by assumption) ?rest262
              case hi262 => (simp only [List.getElem?_toArray, List.getElem?_cons_succ, List.getElem?_cons_zero]; rfl)
              case hq262 => exact fun _ _ _ h => h
              case hw262 => (refine Or.inl ⟨by rfl, ?_⟩; intro w hSw; (try dsimp only at hSw); go_simp; try with_reducible rfl)
              (try simp only [Act.put, List.setIfInBounds_toArray, List.set_cons_zero, List.set_cons_succ])
              refine wpAnyH_take (i := 12) (oi := ?oo263) (v := ?vv263) ?hi263 (by kernel_rfl) (by kernel_rfl) (by kernel_rfl) ?hq263 ?hw263 (by assumption) ?rest263
              case hi263 => (simp only [List.getElem?_toArray, List.getElem?_cons_succ, List.getElem?_cons_zero]; rfl)
              case hq263 => exact fun _ _ _ h => h
              case hw263 => (refine Or.inl ⟨by rfl, ?_⟩; intro w hSw; (try dsimp only at hSw); go_simp; try with_reducible rfl)
              (try simp only [Act.put, List.setIfInBounds_toArray, List.set_cons_zero, List.set_cons_succ])
              refine wpAnyH_take (i := 13) (oi := ?oo264) (v := ?vv264) ?hi264 (by kernel_rfl) (by kernel_rfl) (by kernel_rfl) ?hq264 ?hw264 (by assumption) ?rest264
              case hi264 => (simp only [List.getElem?_toArray, List.getElem?_cons_succ, List.getElem?_cons_zero]; rfl)
              case hq264 => exact fun _ _ _ h => h
              case hw264 => (refine Or.inl ⟨by rfl, ?_⟩; intro w hSw; (try dsimp only at hSw); go_simp; try with_reducible rfl)
              (try simp only [Act.put, List.setIfInBounds_toArray, List.set_cons_zero, List.set_cons_succ])
              refine wpAnyH_take (i := 14) (oi := ?oo265) (v := ?vv265) ?hi265 (by kernel_rfl) (by kernel_rfl) (by kernel_rfl) ?hq265 ?hw265 (by assumption) ?rest265
              case hi265 => (simp only [List.getElem?_toArray, List.getElem?_cons_succ, List.getElem?_cons_zero]; rfl)
              case hq265 => exact fun _ _ _ h => h
              case hw265 => (refine Or.inl ⟨by rfl, ?_⟩; intro w hSw; (try dsimp only at hSw); go_simp; try with_reducible rfl)
              (try simp only [Act.put, List.setIfInBounds_toArray, List.set_cons_zero, List.set_cons_succ])
              refine wpAnyH_take (i := 15) (oi := ?oo266) (v := ?vv266) ?hi266 (by kernel_rfl) (by kernel_rfl) (by kernel_rfl) ?hq266 ?hw266 (by assumption) ?rest266
              case hi266 => (simp only [List.getElem?_toArray, List.getElem?_cons_succ, List.getElem?_cons_zero]; rfl)
              case hq266 => exact fun _ _ _ h => h
              case hw266 => (refine Or.inl ⟨by rfl, ?_⟩; intro w hSw; (try dsimp only at hSw); go_simp; try with_reducible rfl)
              (try simp only [Act.put, List.setIfInBounds_toArray, List.set_cons_zero, List.set_cons_succ])
              refine wpAnyH_take (i := 16) (oi := ?oo267) (v := ?vv267) ?hi267 (by kernel_rfl) (by kernel_rfl) (by kernel_rfl) ?hq267 ?hw267 (by assumption) ?rest267
              case hi267 => (simp only [List.getElem?_toArray, List.getElem?_cons_succ, List.getElem?_cons_zero]; rfl)
              case hq267 => exact fun _ _ _ h => h
              case hw267 => (refine Or.inl ⟨by rfl, ?_⟩; intro w hSw; (try dsimp only at hSw); go_simp; try with_reducible rfl)
              (try simp only [Act.put, List.setIfInBounds_toArray, List.set_cons_zero, List.set_cons_succ])
              refine wpAnyH_take (i := 17) (oi := ?oo268) (v := ?vv268) ?hi268 (by kernel_rfl) (by kernel_rfl) (by kernel_rfl) ?hq268 ?hw268 (by assumption) ?rest268
              case hi268 => (simp only [List.getElem?_toArray, List.getElem?_cons_succ, List.getElem?_cons_zero]; rfl)
              case hq268 => exact fun _ _ _ h => h
              case hw268 => (refine Or.inl ⟨by rfl, ?_⟩; intro w hSw; (try dsimp only at hSw); go_simp; try with_reducible rfl)
              (try simp only [Act.put, List.setIfInBounds_toArray, List.set_cons_zero, List.set_cons_succ])
              refine wpAnyH_take (i := 18) (oi := ?oo269) (v := ?vv269) ?hi269 (by kernel_rfl) (by kernel_rfl) (by kernel_rfl) ?hq269 ?hw269 (by assumption) ?rest269
              case hi269 => (simp only [List.getElem?_toArray, List.getElem?_cons_succ, List.getElem?_cons_zero]; rfl)
              case hq269 => exact fun _ _ _ h => h
              case hw269 => (refine Or.inl ⟨by rfl, ?_⟩; intro w hSw; (try dsimp only at hSw); go_simp; try with_reducible rfl)
              (try simp only [Act.put, List.setIfInBounds_toArray, List.set_cons_zero, List.set_cons_succ])
              refine wpAnyH_take (i := 19) (oi := ?oo270) (v := ?vv270) ?hi270 (by kernel_rfl) (by kernel_rfl) (by kernel_rfl) ?hq270 ?hw270 (by assumption) ?rest270
              case hi270 => (simp only [List.getElem?_toArray, List.getElem?_cons_succ, List.getElem?_cons_zero]; rfl)
              case hq270 => exact fun _ _ _ h => h
              case hw270 => (refine Or.inl ⟨by rfl, ?_⟩; intro w hSw; (try dsimp only at hSw); go_simp; try with_reducible rfl)
              (try simp only [Act.put, List.setIfInBounds_toArray, List.set_cons_zero, List.set_cons_succ])
              refine wpAnyH_take (i := 20) (oi := ?oo271) (v := ?vv271) ?hi271 (by kernel_rfl) (by kernel_rfl) (by kernel_rfl) ?hq271 ?hw271 (by assumption) ?rest271
              case hi271 => (simp only [List.getElem?_toArray, List.getElem?_cons_succ, List.getElem?_cons_zero]; rfl)
              case hq271 => exact fun _ _ _ h => h
              case hw271 => (refine Or.inl ⟨by rfl, ?_⟩; intro w hSw; (try dsimp only at hSw); go_simp; try with_reducible rfl)
              (try simp only [Act.put, List.setIfInBounds_toArray, List.set_cons_zero, List.set_cons_succ])
              refine wpAnyH_take (i := 21) (oi := ?oo272) (v := ?vv272) ?hi272 (by kernel_rfl) (by kernel_rfl) (by kernel_rfl) ?hq272 ?hw272 (by assumption) ?rest272
              case hi272 => (simp only [List.getElem?_toArray, List.getElem?_cons_succ, List.getElem?_cons_zero]; rfl)
              case hq272 => exact fun _ _ _ h => h
              case hw272 => (refine Or.inl ⟨by rfl, ?_⟩; intro w hSw; (try dsimp only at hSw); go_simp; try with_reducible rfl)
              (try simp only [Act.put, List.setIfInBounds_toArray, List.set_cons_zero, List.set_cons_succ])
              refine wpAnyH_ready (rs := [22]) (by kernel_rfl) (by simp) ?_
              refine AllReadyH.cons (o := _) rfl (fun K hK => ?_) AllReadyH.nil
              go_simp
              go_at_call 27; (with_reducible refine (HN.out _ (HI1.out.at_ (by (repeat (first | with_reducible assumption | with_reducible exact Below.refl _ _ | with_reducible refine Below.drew ?_ | with_reducible refine belowDrewN ?_ _ | ((with_reducible refine Below.setCell ?_ ?_ _); rotate_left; focus (first | omega | (simp; done) | (simp; omega))) | ((with_reducible refine Below.alloc ?_ ?_ _); rotate_left; focus (first | omega | (simp; done) | (simp; omega))) | ((with_reducible refine Below.trans ?_ (Below.mono hb1 ?_)); rotate_left; focus (first | omega | (simp; done) | (simp; omega))) | ((with_reducible refine Below.trans ?_ (Below.mono hb2 ?_)); rotate_left; focus (first | omega | (simp; done) | (simp; omega))))))) (HI1'.out.at_ (by (repeat (first | with_reducible assumption | with_reducible exact Below.refl _ _ | with_reducible refine Below.drew ?_ | with_reducible refine belowDrewN ?_ _ | ((with_reducible refine Below.setCell ?_ ?_ _); rotate_left; focus (first | omega | (simp; done) | (simp; omega))) | ((with_reducible refine Below.alloc ?_ ?_ _); rotate_left; focus (first | omega | (simp; done) | (simp; omega))) | ((with_reducible refine Below.trans ?_ (Below.mono hb1 ?_)); rotate_left; focus (first | omega | (simp; done) | (simp; omega))) | ((with_reducible refine Below.trans ?_ (Below.mono hb2 ?_)); rotate_left; focus (first | omega | (simp; done) | (simp; omega)))))))).mono ?_); rintro e w1 ⟨rfl, hb1⟩; obtain ⟨hc1, hf1⟩ := bcell hb1; have hz1 := hb1.size; (try simp only [World.size_alloc, World.size_setCell, World.size_drew, sizeDrewN] at hz1 hc1 hf1); have hp1 : b < w1.heap.size := (by omega); have hp1' : b' < w1.heap.size := (by omega); have hs1 : (w1.cell? ⟨b, off + j * 12, none⟩ = some (.int .i64 k1) ∧ w1.cell? ⟨b, off + j * 12 + 1, none⟩ = some (.int .i64 n1) ∧ w1.cell? ⟨b, off + j * 12 + 2, none⟩ = some (.string s1) ∧ w1.cell? ⟨b, off + j * 12 + 3, none⟩ = some (.slice xa1 x1.length xc1) ∧ w1.cell? ⟨b, off + j * 12 + 4, none⟩ = some (.slice a1 ms1.length cap1) ∧ w1.cell? ⟨b, off + j * 12 + 5, none⟩ = some (.int .i64 D) ∧ w1.cell? ⟨b, off + j * 12 + 6, none⟩ = some (.int .i64 k2) ∧ w1.cell? ⟨b, off + j * 12 + 7, none⟩ = some (.int .i64 n2) ∧ w1.cell? ⟨b, off + j * 12 + 8, none⟩ = some (.string s2) ∧ w1.cell? ⟨b, off + j * 12 + 9, none⟩ = some (.slice xa2 x2.length xc2) ∧ w1.cell? ⟨b, off + j * 12 + 10, none⟩ = some (.slice a2 ms2.length cap2) ∧ w1.cell? ⟨b, off + j * 12 + 11, none⟩ = some (.slice a3 ms3.length cap3) ∧ w1.cell? ⟨b', off' + j * 12, none⟩ = some (.int .i64 k1') ∧ w1.cell? ⟨b', off' + j * 12 + 1, none⟩ = some (.int .i64 n1') ∧ w1.cell? ⟨b', off' + j * 12 + 2, none⟩ = some (.string s1') ∧ w1.cell? ⟨b', off' + j * 12 + 3, none⟩ = some (.slice xa1' x1'.length xc1') ∧ w1.cell? ⟨b', off' + j * 12 + 4, none⟩ = some (.slice a1' ms1'.length cap1') ∧ w1.cell? ⟨b', off' + j * 12 + 5, none⟩ = some (.int .i64 D') ∧ w1.cell? ⟨b', off' + j * 12 + 6, none⟩ = some (.int .i64 k2') ∧ w1.cell? ⟨b', off' + j * 12 + 7, none⟩ = some (.int .i64 n2') ∧ w1.cell? ⟨b', off' + j * 12 + 8, none⟩ = some (.string s2') ∧ w1.cell? ⟨b', off' + j * 12 + 9, none⟩ = some (.slice xa2' x2'.length xc2') ∧ w1.cell? ⟨b', off' + j * 12 + 10, none⟩ = some (.slice a2' ms2'.length cap2') ∧ w1.cell? ⟨b', off' + j * 12 + 11, none⟩ = some (.slice a3' ms3'.length cap3')) := (by first | (simp (disch := omega) only [hc1, hs2, and_self, go_sem, World.cell?_drew]; done) | (simp (disch := omega) only [hc1, hs0, and_self, go_sem, World.cell?_drew]; done))
              refine hK.out _ _ (by (try dsimp only); first | exact hs1 | (first | (with_reducible exact hs0) | (with_reducible exact hs1) | (with_reducible exact hs2) | (simp only [World.cell?_drew]; first | (with_reducible exact hs0) | (with_reducible exact hs1) | (with_reducible exact hs2)))) (fun hHeld => ?_)
              clear hK K
              (try simp only [Act.put, List.setIfInBounds_toArray, List.set_cons_zero, List.set_cons_succ])
              refine wpAnyH_take (i := 23) (oi := ?oo273) (v := ?vv273) ?hi273 (by kernel_rfl) (by kernel_rfl) (by kernel_rfl) ?hq273 ?hw273 (by assumption) ?rest273
              case hi273 => (simp only [List.getElem?_toArray, List.getElem?_cons_succ, List.getElem?_cons_zero]; rfl)
              case hq273 => exact fun _ _ _ h => h
              case hw273 => (refine Or.inl ⟨by rfl, ?_⟩; intro w hSw; (try dsimp only at hSw); go_simp; try with_reducible rfl)
              (try simp only [Act.put, List.setIfInBounds_toArray, List.set_cons_zero, List.set_cons_succ])
              refine wpAnyH_take (i := 24) (oi := ?oo274) (v := ?vv274) ?hi274 (by kernel_rfl) (by kernel_rfl) (by kernel_rfl) ?hq274 ?hw274 (by assumption) ?rest274
              case hi274 => (simp only [List.getElem?_toArray, List.getElem?_cons_succ, List.getElem?_cons_zero]; rfl)
              case hq274 => exact fun _ _ _ h => h
              case hw274 => (refine Or.inl ⟨by rfl, ?_⟩; intro w hSw; (try dsimp only at hSw); go_simp; try with_reducible rfl)
              (try simp only [Act.put, List.setIfInBounds_toArray, List.set_cons_zero, List.set_cons_succ])
              refine wpAnyH_take (i := 25) (oi := ?oo275) (v := ?vv275) ?hi275 (by kernel_rfl) (by kernel_rfl) (by kernel_rfl) ?hq275 ?hw275 (by assumption) ?rest275
              case hi275 => (simp only [List.getElem?_toArray, List.getElem?_cons_succ, List.getElem?_cons_zero]; rfl)
              case hq275 => exact fun _ _ _ h => h
              case hw275 => (refine Or.inl ⟨by rfl, ?_⟩; intro w hSw; (try dsimp only at hSw); go_simp; try with_reducible rfl)
              (try simp only [Act.put, List.setIfInBounds_toArray, List.set_cons_zero, List.set_cons_succ])
              refine wpAnyH_take (i := 26) (oi := ?oo276) (v := ?vv276) ?hi276 (by kernel_rfl) (by kernel_rfl) (by kernel_rfl) ?hq276 ?hw276 (by assumption) ?rest276
              case hi276 => (simp only [List.getElem?_toArray, List.getElem?_cons_succ, List.getElem?_cons_zero]; rfl)
              case hq276 => exact fun _ _ _ h => h
              case hw276 => (refine Or.inl ⟨by rfl, ?_⟩; intro w hSw; (try dsimp only at hSw); go_simp; try with_reducible rfl)
              (try simp only [Act.put, List.setIfInBounds_toArray, List.set_cons_zero, List.set_cons_succ])
              refine wpAnyH_take (i := 27) (oi := ?oo277) (v := ?vv277) ?hi277 (by kernel_rfl) (by kernel_rfl) (by kernel_rfl) ?hq277 ?hw277 (by assumption) ?rest277
              case hi277 => (simp only [List.getElem?_toArray, List.getElem?_cons_succ, List.getElem?_cons_zero]; rfl)
              case hq277 => exact fun _ _ _ h => h
              case hw277 => (refine Or.inl ⟨by rfl, ?_⟩; intro w hSw; (try dsimp only at hSw); go_simp; try with_reducible rfl)
              (try simp only [Act.put, List.setIfInBounds_toArray, List.set_cons_zero, List.set_cons_succ])
              refine wpAnyH_take (i := 28) (oi := ?oo278) (v := ?vv278) ?hi278 (by kernel_rfl) (by kernel_rfl) (by kernel_rfl) ?hq278 ?hw278 (by assumption) ?rest278
              case hi278 => (simp only [List.getElem?_toArray, List.getElem?_cons_succ, List.getElem?_cons_zero]; rfl)
              case hq278 => exact fun _ _ _ h => h
              case hw278 => (refine Or.inl ⟨by rfl, ?_⟩; intro w hSw; (try dsimp only at hSw); go_simp; try with_reducible rfl)
              (try simp only [Act.put, List.setIfInBounds_toArray, List.set_cons_zero, List.set_cons_succ])
              refine wpAnyH_take (i := 29) (oi := ?oo279) (v := ?vv279) ?hi279 (by kernel_rfl) (by kernel_rfl) (by kernel_rfl) ?hq279 ?hw279 (by assumption) ?rest279
              case hi279 => (simp only [List.getElem?_toArray, List.getElem?_cons_succ, List.getElem?_cons_zero]; rfl)
              case hq279 => exact fun _ _ _ h => h
              case hw279 => (refine Or.inl ⟨by rfl, ?_⟩; intro w hSw; (try dsimp only at hSw); go_simp; try with_reducible rfl)
              (try simp only [Act.put, List.setIfInBounds_toArray, List.set_cons_zero, List.set_cons_succ])
              refine wpAnyH_take (i := 30) (oi := ?oo280) (v := ?vv280) ?hi280 (by kernel_rfl) (by kernel_rfl) (by kernel_rfl) ?hq280 ?hw280 (by assumption) ?rest280
              case hi280 => (simp only [List.getElem?_toArray, List.getElem?_cons_succ, List.getElem?_cons_zero]; rfl)
              case hq280 => exact fun _ _ _ h => h
              case hw280 => (refine Or.inl ⟨by rfl, ?_⟩; intro w hSw; (try dsimp only at hSw); go_simp; try with_reducible rfl)
              (try simp only [Act.put, List.setIfInBounds_toArray, List.set_cons_zero, List.set_cons_succ])
              refine wpAnyH_take (i := 31) (oi := ?oo281) (v := ?vv281) ?hi281 (by kernel_rfl) (by kernel_rfl) (by kernel_rfl) ?hq281 ?hw281 (by assumption) ?rest281
              case hi281 => (simp only [List.getElem?_toArray, List.getElem?_cons_succ, List.getElem?_cons_zero]; rfl)
              case hq281 => exact fun _ _ _ h => h
              case hw281 => (refine Or.inl ⟨by rfl, ?_⟩; intro w hSw; (try dsimp only at hSw); go_simp; try with_reducible rfl)
              (try simp only [Act.put, List.setIfInBounds_toArray, List.set_cons_zero, List.set_cons_succ])
              refine wpAnyH_take (i := 32) (oi := ?oo282) (v := ?vv282) ?hi282 (by kernel_rfl) (by kernel_rfl) (by kernel_rfl) ?hq282 ?hw282 (by assumption) ?rest282
              case hi282 => (simp only [List.getElem?_toArray, List.getElem?_cons_succ, List.getElem?_cons_zero]; rfl)
              case hq282 => exact fun _ _ _ h => h
              case hw282 => (refine Or.inl ⟨by rfl, ?_⟩; intro w hSw; (try dsimp only at hSw); go_simp; try with_reducible rfl)
              (try simp only [Act.put, List.setIfInBounds_toArray, List.set_cons_zero, List.set_cons_succ])
              refine wpAnyH_take (i := 33) (oi := ?oo283) (v := ?vv283) ?hi283 (by kernel_rfl) (by kernel_rfl) (by kernel_rfl) ?hq283 ?hw283 (by assumption) ?rest283
              case hi283 => (simp only [List.getElem?_toArray, List.getElem?_cons_succ, List.getElem?_cons_zero]; rfl)
              case hq283 => exact fun _ _ _ h => h
              case hw283 => (refine Or.inl ⟨by rfl, ?_⟩; intro w hSw; (try dsimp only at hSw); go_simp; try with_reducible rfl)
              (try simp only [Act.put, List.setIfInBounds_toArray, List.set_cons_zero, List.set_cons_succ])
              refine wpAnyH_take (i := 34) (oi := ?oo284) (v := ?vv284) ?hi284 (by kernel_rfl) (by kernel_rfl) (by kernel_rfl) ?hq284 ?hw284 (by assumption) ?rest284
              case hi284 => (simp only [List.getElem?_toArray, List.getElem?_cons_succ, List.getElem?_cons_zero]; rfl)
              case hq284 => exact fun _ _ _ h => h
              case hw284 => (refine Or.inl ⟨by rfl, ?_⟩; intro w hSw; (try dsimp only at hSw); go_simp; try with_reducible rfl)
              (try simp only [Act.put, List.setIfInBounds_toArray, List.set_cons_zero, List.set_cons_succ])
              refine wpAnyH_take (i := 35) (oi := ?oo285) (v := ?vv285) ?hi285 (by kernel_rfl) (by kernel_rfl) (by kernel_rfl) ?hq285 ?hw285 (by assumption) ?rest285
              case hi285 => (simp only [List.getElem?_toArray, List.getElem?_cons_succ, List.getElem?_cons_zero]; rfl)
              case hq285 => exact fun _ _ _ h => h
              case hw285 => (refine Or.inl ⟨by rfl, ?_⟩; intro w hSw; (try dsimp only at hSw); go_simp; try with_reducible rfl)
              (try simp only [Act.put, List.setIfInBounds_toArray, List.set_cons_zero, List.set_cons_succ])
              refine wpAnyH_ready (rs := [36]) (by kernel_rfl) (by simp) ?_
              refine AllReadyH.cons (o := _) rfl (fun K hK => ?_) AllReadyH.nil
              go_simp
              go_at_call 27; (with_reducible refine (HF.out _ (HI2.out.at_ (by (repeat (first | with_reducible assumption | with_reducible exact Below.refl _ _ | with_reducible refine Below.drew ?_ | with_reducible refine belowDrewN ?_ _ | ((with_reducible refine Below.setCell ?_ ?_ _); rotate_left; focus (first | omega | (simp; done) | (simp; omega))) | ((with_reducible refine Below.alloc ?_ ?_ _); rotate_left; focus (first | omega | (simp; done) | (simp; omega))) | ((with_reducible refine Below.trans ?_ (Below.mono hb1 ?_)); rotate_left; focus (first | omega | (simp; done) | (simp; omega))) | ((with_reducible refine Below.trans ?_ (Below.mono hb2 ?_)); rotate_left; focus (first | omega | (simp; done) | (simp; omega))))))) (HI2'.out.at_ (by (repeat (first | with_reducible assumption | with_reducible exact Below.refl _ _ | with_reducible refine Below.drew ?_ | with_reducible refine belowDrewN ?_ _ | ((with_reducible refine Below.setCell ?_ ?_ _); rotate_left; focus (first | omega | (simp; done) | (simp; omega))) | ((with_reducible refine Below.alloc ?_ ?_ _); rotate_left; focus (first | omega | (simp; done) | (simp; omega))) | ((with_reducible refine Below.trans ?_ (Below.mono hb1 ?_)); rotate_left; focus (first | omega | (simp; done) | (simp; omega))) | ((with_reducible refine Below.trans ?_ (Below.mono hb2 ?_)); rotate_left; focus (first | omega | (simp; done) | (simp; omega)))))))).mono ?_); rintro e w2 ⟨rfl, hb2⟩; obtain ⟨hc2, hf2⟩ := bcell hb2; have hz2 := hb2.size; (try simp only [World.size_alloc, World.size_setCell, World.size_drew, sizeDrewN] at hz2 hc2 hf2); have hp2 : b < w2.heap.size := (by omega); have hp2' : b' < w2.heap.size := (by omega); have hs2 : (w2.cell? ⟨b, off + j * 12, none⟩ = some (.int .i64 k1) ∧ w2.cell? ⟨b, off + j * 12 + 1, none⟩ = some (.int .i64 n1) ∧ w2.cell? ⟨b, off + j * 12 + 2, none⟩ = some (.string s1) ∧ w2.cell? ⟨b, off + j * 12 + 3, none⟩ = some (.slice xa1 x1.length xc1) ∧ w2.cell? ⟨b, off + j * 12 + 4, none⟩ = some (.slice a1 ms1.length cap1) ∧ w2.cell? ⟨b, off + j * 12 + 5, none⟩ = some (.int .i64 D) ∧ w2.cell? ⟨b, off + j * 12 + 6, none⟩ = some (.int .i64 k2) ∧ w2.cell? ⟨b, off + j * 12 + 7, none⟩ = some (.int .i64 n2) ∧ w2.cell? ⟨b, off + j * 12 + 8, none⟩ = some (.string s2) ∧ w2.cell? ⟨b, off + j * 12 + 9, none⟩ = some (.slice xa2 x2.length xc2) ∧ w2.cell? ⟨b, off + j * 12 + 10, none⟩ = some (.slice a2 ms2.length cap2) ∧ w2.cell? ⟨b, off + j * 12 + 11, none⟩ = some (.slice a3 ms3.length cap3) ∧ w2.cell? ⟨b', off' + j * 12, none⟩ = some (.int .i64 k1') ∧ w2.cell? ⟨b', off' + j * 12 + 1, none⟩ = some (.int .i64 n1') ∧ w2.cell? ⟨b', off' + j * 12 + 2, none⟩ = some (.string s1') ∧ w2.cell? ⟨b', off' + j * 12 + 3, none⟩ = some (.slice xa1' x1'.length xc1') ∧ w2.cell? ⟨b', off' + j * 12 + 4, none⟩ = some (.slice a1' ms1'.length cap1') ∧ w2.cell? ⟨b', off' + j * 12 + 5, none⟩ = some (.int .i64 D') ∧ w2.cell? ⟨b', off' + j * 12 + 6, none⟩ = some (.int .i64 k2') ∧ w2.cell? ⟨b', off' + j * 12 + 7, none⟩ = some (.int .i64 n2') ∧ w2.cell? ⟨b', off' + j * 12 + 8, none⟩ = some (.string s2') ∧ w2.cell? ⟨b', off' + j * 12 + 9, none⟩ = some (.slice xa2' x2'.length xc2') ∧ w2.cell? ⟨b', off' + j * 12 + 10, none⟩ = some (.slice a2' ms2'.length cap2') ∧ w2.cell? ⟨b', off' + j * 12 + 11, none⟩ = some (.slice a3' ms3'.length cap3')) := (by first | (simp (disch := omega) only [hc2, hs1, and_self, go_sem, World.cell?_drew]; done) | (simp (disch := omega) only [hc2, hs0, and_self, go_sem, World.cell?_drew]; done))
              refine hK.out _ _ (by (try dsimp only); first | exact hs2 | (first | (with_reducible exact hs0) | (with_reducible exact hs1) | (with_reducible exact hs2) | (simp only [World.cell?_drew]; first | (with_reducible exact hs0) | (with_reducible exact hs1) | (with_reducible exact hs2)))) (fun hHeld => ?_)
              clear hK K
              (try simp only [Act.put, List.setIfInBounds_toArray, List.set_cons_zero, List.set_cons_succ])
              refine wpAnyH_take (i := 37) (oi := ?oo286) (v := ?vv286) ?hi286 (by kernel_rfl) (by kernel_rfl) (by kernel_rfl) ?hq286 ?hw286 (by assumption) ?rest286
              case hi286 => (simp only [List.getElem?_toArray, List.getElem?_cons_succ, List.getElem?_cons_zero]; rfl)
              case hq286 => exact fun _ _ _ h => h
              case hw286 => (refine Or.inl ⟨by rfl, ?_⟩; intro w hSw; (try dsimp only at hSw); go_simp; try with_reducible rfl)
              (try simp only [Act.put, List.setIfInBounds_toArray, List.set_cons_zero, List.set_cons_succ])
              refine wpAnyH_take (i := 38) (oi := ?oo287) (v := ?vv287) ?hi287 (by kernel_rfl) (by kernel_rfl) (by kernel_rfl) ?hq287 ?hw287 (by assumption) ?rest287
              case hi287 => (simp only [List.getElem?_toArray, List.getElem?_cons_succ, List.getElem?_cons_zero]; rfl)
              case hq287 => exact fun _ _ _ h => h
              case hw287 => (refine Or.inl ⟨by rfl, ?_⟩; intro w hSw; (try dsimp only at hSw); go_simp; try with_reducible rfl)
              (try simp only [Act.put, List.setIfInBounds_toArray, List.set_cons_zero, List.set_cons_succ])
              refine wpAnyH_take (i := 39) (oi := ?oo288) (v := ?vv288) ?hi288 (by kernel_rfl) (by kernel_rfl) (by kernel_rfl) ?hq288 ?hw288 (by assumption) ?rest288
              case hi288 => (simp only [List.getElem?_toArray, List.getElem?_cons_succ, List.getElem?_cons_zero]; rfl)
              case hq288 => exact fun _ _ _ h => h
              case hw288 => (refine Or.inl ⟨by rfl, ?_⟩; intro w hSw; (try dsimp only at hSw); go_simp; try with_reducible rfl)
              (try simp only [Act.put, List.setIfInBounds_toArray, List.set_cons_zero, List.set_cons_succ])
              refine wpAnyH_take (i := 40) (oi := ?oo289) (v := undef) ?hi289 (by kernel_rfl) (by kernel_rfl) (by kernel_rfl) ?hq289 ?hw289 (by assumption) ?rest289
              case hi289 => (simp only [List.getElem?_toArray, List.getElem?_cons_succ, List.getElem?_cons_zero]; rfl)
              case hq289 => exact fun _ _ _ h => h
              case hw289 => exact Or.inr ⟨by rfl, rfl⟩
              (try simp only [Act.put, List.setIfInBounds_toArray, List.set_cons_zero, List.set_cons_succ])
              refine wpAnyH_take (i := 41) (oi := ?oo290) (v := undef) ?hi290 (by kernel_rfl) (by kernel_rfl) (by kernel_rfl) ?hq290 ?hw290 (by assumption) ?rest290
              case hi290 => (simp only [List.getElem?_toArray, List.getElem?_cons_succ, List.getElem?_cons_zero]; rfl)
              case hq290 => exact fun _ _ _ h => h
              case hw290 => exact Or.inr ⟨by rfl, rfl⟩
              (try simp only [Act.put, List.setIfInBounds_toArray, List.set_cons_zero, List.set_cons_succ])
              refine wpAnyH_take (i := 42) (oi := ?oo291) (v := undef) ?hi291 (by kernel_rfl) (by kernel_rfl) (by kernel_rfl) ?hq291 ?hw291 (by assumption) ?rest291
              case hi291 => (simp only [List.getElem?_toArray, List.getElem?_cons_succ, List.getElem?_cons_zero]; rfl)
              case hq291 => exact fun _ _ _ h => h
              case hw291 => exact Or.inr ⟨by rfl, rfl⟩
              (try simp only [Act.put, List.setIfInBounds_toArray, List.set_cons_zero, List.set_cons_succ])
              refine wpAnyH_take (i := 43) (oi := ?oo292) (v := undef) ?hi292 (by kernel_rfl) (by kernel_rfl) (by kernel_rfl) ?hq292 ?hw292 (by assumption) ?rest292
              case hi292 => (simp only [List.getElem?_toArray, List.getElem?_cons_succ, List.getElem?_cons_zero]; rfl)
              case hq292 => exact fun _ _ _ h => h
              case hw292 => exact Or.inr ⟨by rfl, rfl⟩
              (try simp only [Act.put, List.setIfInBounds_toArray, List.set_cons_zero, List.set_cons_succ])
              refine wpAnyH_take (i := 44) (oi := ?oo293) (v := undef) ?hi293 (by kernel_rfl) (by kernel_rfl) (by kernel_rfl) ?hq293 ?hw293 (by assumption) ?rest293
              case hi293 => (simp only [List.getElem?_toArray, List.getElem?_cons_succ, List.getElem?_cons_zero]; rfl)
              case hq293 => exact fun _ _ _ h => h
              case hw293 => exact Or.inr ⟨by rfl, rfl⟩
              (try simp only [Act.put, List.setIfInBounds_toArray, List.set_cons_zero, List.set_cons_succ])
              refine wpAnyH_take (i := 45) (oi := ?oo294) (v := undef) ?hi294 (by kernel_rfl) (by kernel_rfl) (by kernel_rfl) ?hq294 ?hw294 (by assumption) ?rest294
              case hi294 => (simp only [List.getElem?_toArray, List.getElem?_cons_succ, List.getElem?_cons_zero]; rfl)
              case hq294 => exact fun _ _ _ h => h
              case hw294 => exact Or.inr ⟨by rfl, rfl⟩
              (try simp only [Act.put, List.setIfInBounds_toArray, List.set_cons_zero, List.set_cons_succ])
              refine wpAnyH_take (i := 46) (oi := ?oo295) (v := undef) ?hi295 (by kernel_rfl) (by kernel_rfl) (by kernel_rfl) ?hq295 ?hw295 (by assumption) ?rest295
              case hi295 => (simp only [List.getElem?_toArray, List.getElem?_cons_succ, List.getElem?_cons_zero]; rfl)
              case hq295 => exact fun _ _ _ h => h
              case hw295 => exact Or.inr ⟨by rfl, rfl⟩
              (try simp only [Act.put, List.setIfInBounds_toArray, List.set_cons_zero, List.set_cons_succ])
              refine wpAnyH_take (i := 47) (oi := ?oo296) (v := undef) ?hi296 (by kernel_rfl) (by kernel_rfl) (by kernel_rfl) ?hq296 ?hw296 (by assumption) ?rest296
              case hi296 => (simp only [List.getElem?_toArray, List.getElem?_cons_succ, List.getElem?_cons_zero]; rfl)
              case hq296 => exact fun _ _ _ h => h
              case hw296 => exact Or.inr ⟨by rfl, rfl⟩
              (try simp only [Act.put, List.setIfInBounds_toArray, List.set_cons_zero, List.set_cons_succ])
              refine wpAnyH_take (i := 48) (oi := ?oo297) (v := undef) ?hi297 (by kernel_rfl) (by kernel_rfl) (by kernel_rfl) ?hq297 ?hw297 (by assumption) ?rest297
              case hi297 => (simp only [List.getElem?_toArray, List.getElem?_cons_succ, List.getElem?_cons_zero]; rfl)
              case hq297 => exact fun _ _ _ h => h
              case hw297 => exact Or.inr ⟨by rfl, rfl⟩
              (try simp only [Act.put, List.setIfInBounds_toArray, List.set_cons_zero, List.set_cons_succ])
              refine wpAnyH_take (i := 49) (oi := ?oo298) (v := undef) ?hi298 (by kernel_rfl) (by kernel_rfl) (by kernel_rfl) ?hq298 ?hw298 (by assumption) ?rest298
              case hi298 => (simp only [List.getElem?_toArray, List.getElem?_cons_succ, List.getElem?_cons_zero]; rfl)
              case hq298 => exact fun _ _ _ h => h
              case hw298 => exact Or.inr ⟨by rfl, rfl⟩
              (try simp only [Act.put, List.setIfInBounds_toArray, List.set_cons_zero, List.set_cons_succ])
              refine wpAnyH_ready (rs := [50]) (by kernel_rfl) (by simp) ?_
              refine AllReadyH.cons (o := _) rfl (fun K hK => ?_) AllReadyH.nil
              go_simp
              refine hK.out _ _ (by (try dsimp only); first | exact hHeld | (first | (with_reducible exact hs0) | (with_reducible exact hs1) | (with_reducible exact hs2) | (simp only [World.cell?_drew]; first | (with_reducible exact hs0) | (with_reducible exact hs1) | (with_reducible exact hs2)))) (fun hHeld => ?_)
              clear hK K
              (try simp only [Act.put, List.setIfInBounds_toArray, List.set_cons_zero, List.set_cons_succ])
              refine wpAnyH_take (i := 51) (oi := ?oo299) (v := undef) ?hi299 (by kernel_rfl) (by kernel_rfl) (by kernel_rfl) ?hq299 ?hw299 (by assumption) ?rest299
              case hi299 => (simp only [List.getElem?_toArray, List.getElem?_cons_succ, List.getElem?_cons_zero]; rfl)
              case hq299 => exact fun _ _ _ h => h
              case hw299 => exact Or.inr ⟨by rfl, rfl⟩
              (try simp only [Act.put, List.setIfInBounds_toArray, List.set_cons_zero, List.set_cons_succ])
              refine wpAnyH_take (i := 52) (oi := ?oo300) (v := ?vv300) ?hi300 (by kernel_rfl) (by kernel_rfl) (by kernel_rfl) ?hq300 ?hw300 (by assumption) ?rest300
              case hi300 => (simp only [List.getElem?_toArray, List.getElem?_cons_succ, List.getElem?_cons_zero]; rfl)
              case hq300 => exact fun _ _ _ h => h
              case hw300 => (refine Or.inl ⟨by rfl, ?_⟩; intro w hSw; (try dsimp only at hSw); go_simp; try with_reducible rfl)
              (try simp only [Act.put, List.setIfInBounds_toArray, List.set_cons_zero, List.set_cons_succ])
              refine wpAnyH_done (by kernel_rfl) ?_ _
              go_wp2_with fail
              go_ret
              exact ⟨ret_b ((capB_not _ _).2 HNE.out).symm, by (repeat (first | with_reducible assumption | with_reducible exact Below.refl _ _ | with_reducible refine Below.drew ?_ | with_reducible refine belowDrewN ?_ _ | ((with_reducible refine Below.setCell ?_ ?_ _); rotate_left; focus (first | omega | (simp; done) | (simp; omega))) | ((with_reducible refine Below.alloc ?_ ?_ _); rotate_left; focus (first | omega | (simp; done) | (simp; omega))) | ((with_reducible refine Below.trans ?_ (Below.mono hb1 ?_)); rotate_left; focus (first | omega | (simp; done) | (simp; omega))) | ((with_reducible refine Below.trans ?_ (Below.mono hb2 ?_)); rotate_left; focus (first | omega | (simp; done) | (simp; omega)))))⟩
          · have hD : (D != D') = false := by simp [heD]
            have hN : ∀ W, (SynOwn 33 xa1 xc1 x1 a1 cap1 ms1).In W → (SynOwn 33 xa1' xc1' x1' a1' cap1' ms1').In W → Calls Try.prog 27 #[.agg #[.int .i64 k1, .int .i64 n1, .string s1, .slice xa1 x1.length xc1, .slice a1 ms1.length cap1], .agg #[.int .i64 k1', .int .i64 n1', .string s1', .slice xa1' x1'.length xc1', .slice a1' ms1'.length cap1']] W (Ret (.bool false) W) := fun W h1 h2 => by
              have h := iEqualSyntax_calls ds1 k1 n1 s1 x1 xa1 xc1 a1 cap1 ms1 k1' n1' s1' x1' xa1' xc1' a1' cap1' ds1' ms1' W hi1.is h1 hi1'.is h2
              rw [(eqSB_not _ _).2 heN] at h
              exact h
            have hne := ne_of_get hd hd' (fun e => heN (by injection e))
            have HI1 := Lib.hid hi1; clear hi1; have HI2 := Lib.hid hi2; clear hi2; have HI3 := Lib.hid hi3; clear hi3; have HIN3 := Lib.hid hin3; clear hin3; have HI1' := Lib.hid hi1'; clear hi1'; have HI2' := Lib.hid hi2'; clear hi2'; have HI3' := Lib.hid hi3'; clear hi3'; have HIN3' := Lib.hid hin3'; clear hin3'; have HD := Lib.hid hd; clear hd; have HD' := Lib.hid hd'; clear hd'; have HPRE := Lib.hid hpre; clear hpre; have HED := Lib.hid heD; clear heD; have HEN := Lib.hid heN; clear heN; have HN := Lib.hid hN; clear hN; have HNE := Lib.hid hne; clear hne
            go_wp2_with fail
            refine wp_region_held_drew (S := fun w' => (w'.cell? ⟨b, off + j * 12, none⟩ = some (.int .i64 k1) ∧ w'.cell? ⟨b, off + j * 12 + 1, none⟩ = some (.int .i64 n1) ∧ w'.cell? ⟨b, off + j * 12 + 2, none⟩ = some (.string s1) ∧ w'.cell? ⟨b, off + j * 12 + 3, none⟩ = some (.slice xa1 x1.length xc1) ∧ w'.cell? ⟨b, off + j * 12 + 4, none⟩ = some (.slice a1 ms1.length cap1) ∧ w'.cell? ⟨b, off + j * 12 + 5, none⟩ = some (.int .i64 D) ∧ w'.cell? ⟨b, off + j * 12 + 6, none⟩ = some (.int .i64 k2) ∧ w'.cell? ⟨b, off + j * 12 + 7, none⟩ = some (.int .i64 n2) ∧ w'.cell? ⟨b, off + j * 12 + 8, none⟩ = some (.string s2) ∧ w'.cell? ⟨b, off + j * 12 + 9, none⟩ = some (.slice xa2 x2.length xc2) ∧ w'.cell? ⟨b, off + j * 12 + 10, none⟩ = some (.slice a2 ms2.length cap2) ∧ w'.cell? ⟨b, off + j * 12 + 11, none⟩ = some (.slice a3 ms3.length cap3) ∧ w'.cell? ⟨b', off' + j * 12, none⟩ = some (.int .i64 k1') ∧ w'.cell? ⟨b', off' + j * 12 + 1, none⟩ = some (.int .i64 n1') ∧ w'.cell? ⟨b', off' + j * 12 + 2, none⟩ = some (.string s1') ∧ w'.cell? ⟨b', off' + j * 12 + 3, none⟩ = some (.slice xa1' x1'.length xc1') ∧ w'.cell? ⟨b', off' + j * 12 + 4, none⟩ = some (.slice a1' ms1'.length cap1') ∧ w'.cell? ⟨b', off' + j * 12 + 5, none⟩ = some (.int .i64 D') ∧ w'.cell? ⟨b', off' + j * 12 + 6, none⟩ = some (.int .i64 k2') ∧ w'.cell? ⟨b', off' + j * 12 + 7, none⟩ = some (.int .i64 n2') ∧ w'.cell? ⟨b', off' + j * 12 + 8, none⟩ = some (.string s2') ∧ w'.cell? ⟨b', off' + j * 12 + 9, none⟩ = some (.slice xa2' x2'.length xc2') ∧ w'.cell? ⟨b', off' + j * 12 + 10, none⟩ = some (.slice a2' ms2'.length cap2') ∧ w'.cell? ⟨b', off' + j * 12 + 11, none⟩ = some (.slice a3' ms3'.length cap3'))) (by kernel_rfl) ?_ (fun hHeld => ?_)
            · (first | (with_reducible exact hs0) | (with_reducible exact hs1) | (simp only [World.cell?_drew]; first | (with_reducible exact hs0) | (with_reducible exact hs1)))
            refine wpAnyH_take (i := 0) (oi := ?oo301) (v := ?vv301) ?hi301 (by kernel_rfl) (by kernel_rfl) (by kernel_rfl) ?hq301 ?hw301 (by assumption) ?rest301
            case hi301 => (simp only [List.getElem?_toArray, List.getElem?_cons_succ, List.getElem?_cons_zero]; rfl)
            case hq301 => exact fun _ _ _ h => h
            case hw301 => (refine Or.inl ⟨by rfl, ?_⟩; intro w hSw; (try dsimp only at hSw); go_simp; try with_reducible rfl)
            (try simp only [Act.put, List.setIfInBounds_toArray, List.set_cons_zero, List.set_cons_succ])
            refine wpAnyH_take (i := 1) (oi := ?oo302) (v := ?vv302) ?hi302 (by kernel_rfl) (by kernel_rfl) (by kernel_rfl) ?hq302 ?hw302 (by assumption) ?rest302
            case hi302 => (simp only [List.getElem?_toArray, List.getElem?_cons_succ, List.getElem?_cons_zero]; rfl)
            case hq302 => exact fun _ _ _ h => h
            case hw302 => (refine Or.inl ⟨by rfl, ?_⟩; intro w hSw; (try dsimp only at hSw); go_simp; try with_reducible rfl)
            (try simp only [Act.put, List.setIfInBounds_toArray, List.set_cons_zero, List.set_cons_succ])
            refine wpAnyH_take (i := 2) (oi := ?oo303) (v := ?vv303) ?hi303 (by kernel_rfl) (by kernel_rfl) (by kernel_rfl) ?hq303 ?hw303 (by assumption) ?rest303
            case hi303 => (simp only [List.getElem?_toArray, List.getElem?_cons_succ, List.getElem?_cons_zero]; rfl)
            case hq303 => exact fun _ _ _ h => h
            case hw303 => (refine Or.inl ⟨by rfl, ?_⟩; intro w hSw; (try dsimp only at hSw); go_simp; try with_reducible rfl)
            (try simp only [Act.put, List.setIfInBounds_toArray, List.set_cons_zero, List.set_cons_succ])
            refine wpAnyH_take (i := 3) (oi := ?oo304) (v := ?vv304) ?hi304 (by kernel_rfl) (by kernel_rfl) (by kernel_rfl) ?hq304 ?hw304 (by assumption) ?rest304
            case hi304 => (simp only [List.getElem?_toArray, List.getElem?_cons_succ, List.getElem?_cons_zero]; rfl)
            case hq304 => exact fun _ _ _ h => h
            case hw304 => (refine Or.inl ⟨by rfl, ?_⟩; intro w hSw; (try dsimp only at hSw); go_simp; try with_reducible rfl)
            (try simp only [Act.put, List.setIfInBounds_toArray, List.set_cons_zero, List.set_cons_succ])
            refine wpAnyH_take (i := 4) (oi := ?oo305) (v := ?vv305) ?hi305 (by kernel_rfl) (by kernel_rfl) (by kernel_rfl) ?hq305 ?hw305 (by assumption) ?rest305
            case hi305 => (simp only [List.getElem?_toArray, List.getElem?_cons_succ, List.getElem?_cons_zero]; rfl)
            case hq305 => exact fun _ _ _ h => h
            case hw305 => (refine Or.inl ⟨by rfl, ?_⟩; intro w hSw; (try dsimp only at hSw); go_simp; try with_reducible rfl)
            (try simp only [Act.put, List.setIfInBounds_toArray, List.set_cons_zero, List.set_cons_succ])
            refine wpAnyH_take (i := 5) (oi := ?oo306) (v := ?vv306) ?hi306 (by kernel_rfl) (by kernel_rfl) (by kernel_rfl) ?hq306 ?hw306 (by assumption) ?rest306
            case hi306 => (simp only [List.getElem?_toArray, List.getElem?_cons_succ, List.getElem?_cons_zero]; rfl)
            case hq306 => exact fun _ _ _ h => h
            case hw306 => (refine Or.inl ⟨by rfl, ?_⟩; intro w hSw; (try dsimp only at hSw); go_simp; try with_reducible rfl)
            (try simp only [Act.put, List.setIfInBounds_toArray, List.set_cons_zero, List.set_cons_succ])
            refine wpAnyH_take (i := 6) (oi := ?oo307) (v := ?vv307) ?hi307 (by kernel_rfl) (by kernel_rfl) (by kernel_rfl) ?hq307 ?hw307 (by assumption) ?rest307
            case hi307 => (simp only [List.getElem?_toArray, List.getElem?_cons_succ, List.getElem?_cons_zero]; rfl)
            case hq307 => exact fun _ _ _ h => h
            case hw307 => (refine Or.inl ⟨by rfl, ?_⟩; intro w hSw; (try dsimp only at hSw); go_simp; try with_reducible rfl)
            (try simp only [Act.put, List.setIfInBounds_toArray, List.set_cons_zero, List.set_cons_succ])
            refine wpAnyH_take (i := 7) (oi := ?oo308) (v := ?vv308) ?hi308 (by kernel_rfl) (by kernel_rfl) (by kernel_rfl) ?hq308 ?hw308 (by assumption) ?rest308
            case hi308 => (simp only [List.getElem?_toArray, List.getElem?_cons_succ, List.getElem?_cons_zero]; rfl)
            case hq308 => exact fun _ _ _ h => h
            case hw308 => (refine Or.inl ⟨by rfl, ?_⟩; intro w hSw; (try dsimp only at hSw); go_simp; try with_reducible rfl)
            (try simp only [Act.put, List.setIfInBounds_toArray, List.set_cons_zero, List.set_cons_succ])
            refine wpAnyH_take (i := 8) (oi := ?oo309) (v := ?vv309) ?hi309 (by kernel_rfl) (by kernel_rfl) (by kernel_rfl) ?hq309 ?hw309 (by assumption) ?rest309
            case hi309 => (simp only [List.getElem?_toArray, List.getElem?_cons_succ, List.getElem?_cons_zero]; rfl)
            case hq309 => exact fun _ _ _ h => h
            case hw309 => (refine Or.inl ⟨by rfl, ?_⟩; intro w hSw; (try dsimp only at hSw); go_simp; try with_reducible rfl)
            (try simp only [Act.put, List.setIfInBounds_toArray, List.set_cons_zero, List.set_cons_succ])
            refine wpAnyH_take (i := 9) (oi := ?oo310) (v := ?vv310) ?hi310 (by kernel_rfl) (by kernel_rfl) (by kernel_rfl) ?hq310 ?hw310 (by assumption) ?rest310
            case hi310 => (simp only [List.getElem?_toArray, List.getElem?_cons_succ, List.getElem?_cons_zero]; rfl)
            case hq310 => exact fun _ _ _ h => h
            case hw310 => (refine Or.inl ⟨by rfl, ?_⟩; intro w hSw; (try dsimp only at hSw); go_simp; try with_reducible rfl)
            (try simp only [Act.put, List.setIfInBounds_toArray, List.set_cons_zero, List.set_cons_succ])
            refine wpAnyH_take (i := 10) (oi := ?oo311) (v := ?vv311) ?hi311 (by kernel_rfl) (by kernel_rfl) (by kernel_rfl) ?hq311 ?hw311 (by assumption) ?rest311
            case hi311 => (simp only [List.getElem?_toArray, List.getElem?_cons_succ, List.getElem?_cons_zero]; rfl)
            case hq311 => exact fun _ _ _ h => h
            case hw311 => (refine Or.inl ⟨by rfl, ?_⟩; intro w hSw; (try dsimp only at hSw); go_simp; try with_reducible rfl)
            (try simp only [Act.put, List.setIfInBounds_toArray, List.set_cons_zero, List.set_cons_succ])
            refine wpAnyH_take (i := 11) (oi := ?oo312) (v := ?vv312) ?hi312 (by kernel_rfl) (by kernel_rfl) (by kernel_rfl) ?hq312 ?hw312 (by assumption) ?rest312
            case hi312 => (simp only [List.getElem?_toArray, List.getElem?_cons_succ, List.getElem?_cons_zero]; rfl)
            case hq312 => exact fun _ _ _ h => h
            case hw312 => (refine Or.inl ⟨by rfl, ?_⟩; intro w hSw; (try dsimp only at hSw); go_simp; try with_reducible rfl)
            (try simp only [Act.put, List.setIfInBounds_toArray, List.set_cons_zero, List.set_cons_succ])
            refine wpAnyH_take (i := 12) (oi := ?oo313) (v := ?vv313) ?hi313 (by kernel_rfl) (by kernel_rfl) (by kernel_rfl) ?hq313 ?hw313 (by assumption) ?rest313
            case hi313 => (simp only [List.getElem?_toArray, List.getElem?_cons_succ, List.getElem?_cons_zero]; rfl)
            case hq313 => exact fun _ _ _ h => h
            case hw313 => (refine Or.inl ⟨by rfl, ?_⟩; intro w hSw; (try dsimp only at hSw); go_simp; try with_reducible rfl)
            (try simp only [Act.put, List.setIfInBounds_toArray, List.set_cons_zero, List.set_cons_succ])
            refine wpAnyH_take (i := 13) (oi := ?oo314) (v := ?vv314) ?hi314 (by kernel_rfl) (by kernel_rfl) (by kernel_rfl) ?hq314 ?hw314 (by assumption) ?rest314
            case hi314 => (simp only [List.getElem?_toArray, List.getElem?_cons_succ, List.getElem?_cons_zero]; rfl)
            case hq314 => exact fun _ _ _ h => h
            case hw314 => (refine Or.inl ⟨by rfl, ?_⟩; intro w hSw; (try dsimp only at hSw); go_simp; try with_reducible rfl)
            (try simp only [Act.put, List.setIfInBounds_toArray, List.set_cons_zero, List.set_cons_succ])
            refine wpAnyH_take (i := 14) (oi := ?oo315) (v := ?vv315) ?hi315 (by kernel_rfl) (by kernel_rfl) (by kernel_rfl) ?hq315 ?hw315 (by assumption) ?rest315
            case hi315 => (simp only [List.getElem?_toArray, List.getElem?_cons_succ, List.getElem?_cons_zero]; rfl)
            case hq315 => exact fun _ _ _ h => h
            case hw315 => (refine Or.inl ⟨by rfl, ?_⟩; intro w hSw; (try dsimp only at hSw); go_simp; try with_reducible rfl)
            (try simp only [Act.put, List.setIfInBounds_toArray, List.set_cons_zero, List.set_cons_succ])
            refine wpAnyH_take (i := 15) (oi := ?oo316) (v := ?vv316) ?hi316 (by kernel_rfl) (by kernel_rfl) (by kernel_rfl) ?hq316 ?hw316 (by assumption) ?rest316
            case hi316 => (simp only [List.getElem?_toArray, List.getElem?_cons_succ, List.getElem?_cons_zero]; rfl)
            case hq316 => exact fun _ _ _ h => h
            case hw316 => (refine Or.inl ⟨by rfl, ?_⟩; intro w hSw; (try dsimp only at hSw); go_simp; try with_reducible rfl)
            (try simp only [Act.put, List.setIfInBounds_toArray, List.set_cons_zero, List.set_cons_succ])
            refine wpAnyH_take (i := 16) (oi := ?oo317) (v := ?vv317) ?hi317 (by kernel_rfl) (by kernel_rfl) (by kernel_rfl) ?hq317 ?hw317 (by assumption) ?rest317
            case hi317 => (simp only [List.getElem?_toArray, List.getElem?_cons_succ, List.getElem?_cons_zero]; rfl)
            case hq317 => exact fun _ _ _ h => h
            case hw317 => (refine Or.inl ⟨by rfl, ?_⟩; intro w hSw; (try dsimp only at hSw); go_simp; try with_reducible rfl)
            (try simp only [Act.put, List.setIfInBounds_toArray, List.set_cons_zero, List.set_cons_succ])
            refine wpAnyH_take (i := 17) (oi := ?oo318) (v := ?vv318) ?hi318 (by kernel_rfl) (by kernel_rfl) (by kernel_rfl) ?hq318 ?hw318 (by assumption) ?rest318
            case hi318 => (simp only [List.getElem?_toArray, List.getElem?_cons_succ, List.getElem?_cons_zero]; rfl)
            case hq318 => exact fun _ _ _ h => h
            case hw318 => (refine Or.inl ⟨by rfl, ?_⟩; intro w hSw; (try dsimp only at hSw); go_simp; try with_reducible rfl)
            (try simp only [Act.put, List.setIfInBounds_toArray, List.set_cons_zero, List.set_cons_succ])
            refine wpAnyH_take (i := 18) (oi := ?oo319) (v := ?vv319) ?hi319 (by kernel_rfl) (by kernel_rfl) (by kernel_rfl) ?hq319 ?hw319 (by assumption) ?rest319
            case hi319 => (simp only [List.getElem?_toArray, List.getElem?_cons_succ, List.getElem?_cons_zero]; rfl)
            case hq319 => exact fun _ _ _ h => h
            case hw319 => (refine Or.inl ⟨by rfl, ?_⟩; intro w hSw; (try dsimp only at hSw); go_simp; try with_reducible rfl)
            (try simp only [Act.put, List.setIfInBounds_toArray, List.set_cons_zero, List.set_cons_succ])
            refine wpAnyH_take (i := 19) (oi := ?oo320) (v := ?vv320) ?hi320 (by kernel_rfl) (by kernel_rfl) (by kernel_rfl) ?hq320 ?hw320 (by assumption) ?rest320
            case hi320 => (simp only [List.getElem?_toArray, List.getElem?_cons_succ, List.getElem?_cons_zero]; rfl)
            case hq320 => exact fun _ _ _ h => h
            case hw320 => (refine Or.inl ⟨by rfl, ?_⟩; intro w hSw; (try dsimp only at hSw); go_simp; try with_reducible rfl)
            (try simp only [Act.put, List.setIfInBounds_toArray, List.set_cons_zero, List.set_cons_succ])
            refine wpAnyH_take (i := 20) (oi := ?oo321) (v := ?vv321) ?hi321 (by kernel_rfl) (by kernel_rfl) (by kernel_rfl) ?hq321 ?hw321 (by assumption) ?rest321
            case hi321 => (simp only [List.getElem?_toArray, List.getElem?_cons_succ, List.getElem?_cons_zero]; rfl)
            case hq321 => exact fun _ _ _ h => h
            case hw321 => (refine Or.inl ⟨by rfl, ?_⟩; intro w hSw; (try dsimp only at hSw); go_simp; try with_reducible rfl)
            (try simp only [Act.put, List.setIfInBounds_toArray, List.set_cons_zero, List.set_cons_succ])
            refine wpAnyH_take (i := 21) (oi := ?oo322) (v := ?vv322) ?hi322 (by kernel_rfl) (by kernel_rfl) (by kernel_rfl) ?hq322 ?hw322 (by assumption) ?rest322
            case hi322 => (simp only [List.getElem?_toArray, List.getElem?_cons_succ, List.getElem?_cons_zero]; rfl)
            case hq322 => exact fun _ _ _ h => h
            case hw322 => (refine Or.inl ⟨by rfl, ?_⟩; intro w hSw; (try dsimp only at hSw); go_simp; try with_reducible rfl)
            (try simp only [Act.put, List.setIfInBounds_toArray, List.set_cons_zero, List.set_cons_succ])
            refine wpAnyH_ready (rs := [22]) (by kernel_rfl) (by simp) ?_
            refine AllReadyH.cons (o := _) rfl (fun K hK => ?_) AllReadyH.nil
            go_simp
            go_at_call 27; (with_reducible refine (HN.out _ (HI1.out.at_ (by (repeat (first | with_reducible assumption | with_reducible exact Below.refl _ _ | with_reducible refine Below.drew ?_ | with_reducible refine belowDrewN ?_ _ | ((with_reducible refine Below.setCell ?_ ?_ _); rotate_left; focus (first | omega | (simp; done) | (simp; omega))) | ((with_reducible refine Below.alloc ?_ ?_ _); rotate_left; focus (first | omega | (simp; done) | (simp; omega))) | ((with_reducible refine Below.trans ?_ (Below.mono hb1 ?_)); rotate_left; focus (first | omega | (simp; done) | (simp; omega))))))) (HI1'.out.at_ (by (repeat (first | with_reducible assumption | with_reducible exact Below.refl _ _ | with_reducible refine Below.drew ?_ | with_reducible refine belowDrewN ?_ _ | ((with_reducible refine Below.setCell ?_ ?_ _); rotate_left; focus (first | omega | (simp; done) | (simp; omega))) | ((with_reducible refine Below.alloc ?_ ?_ _); rotate_left; focus (first | omega | (simp; done) | (simp; omega))) | ((with_reducible refine Below.trans ?_ (Below.mono hb1 ?_)); rotate_left; focus (first | omega | (simp; done) | (simp; omega)))))))).mono ?_); rintro e w1 ⟨rfl, hb1⟩; obtain ⟨hc1, hf1⟩ := bcell hb1; have hz1 := hb1.size; (try simp only [World.size_alloc, World.size_setCell, World.size_drew, sizeDrewN] at hz1 hc1 hf1); have hp1 : b < w1.heap.size := (by omega); have hp1' : b' < w1.heap.size := (by omega); have hs1 : (w1.cell? ⟨b, off + j * 12, none⟩ = some (.int .i64 k1) ∧ w1.cell? ⟨b, off + j * 12 + 1, none⟩ = some (.int .i64 n1) ∧ w1.cell? ⟨b, off + j * 12 + 2, none⟩ = some (.string s1) ∧ w1.cell? ⟨b, off + j * 12 + 3, none⟩ = some (.slice xa1 x1.length xc1) ∧ w1.cell? ⟨b, off + j * 12 + 4, none⟩ = some (.slice a1 ms1.length cap1) ∧ w1.cell? ⟨b, off + j * 12 + 5, none⟩ = some (.int .i64 D) ∧ w1.cell? ⟨b, off + j * 12 + 6, none⟩ = some (.int .i64 k2) ∧ w1.cell? ⟨b, off + j * 12 + 7, none⟩ = some (.int .i64 n2) ∧ w1.cell? ⟨b, off + j * 12 + 8, none⟩ = some (.string s2) ∧ w1.cell? ⟨b, off + j * 12 + 9, none⟩ = some (.slice xa2 x2.length xc2) ∧ w1.cell? ⟨b, off + j * 12 + 10, none⟩ = some (.slice a2 ms2.length cap2) ∧ w1.cell? ⟨b, off + j * 12 + 11, none⟩ = some (.slice a3 ms3.length cap3) ∧ w1.cell? ⟨b', off' + j * 12, none⟩ = some (.int .i64 k1') ∧ w1.cell? ⟨b', off' + j * 12 + 1, none⟩ = some (.int .i64 n1') ∧ w1.cell? ⟨b', off' + j * 12 + 2, none⟩ = some (.string s1') ∧ w1.cell? ⟨b', off' + j * 12 + 3, none⟩ = some (.slice xa1' x1'.length xc1') ∧ w1.cell? ⟨b', off' + j * 12 + 4, none⟩ = some (.slice a1' ms1'.length cap1') ∧ w1.cell? ⟨b', off' + j * 12 + 5, none⟩ = some (.int .i64 D') ∧ w1.cell? ⟨b', off' + j * 12 + 6, none⟩ = some (.int .i64 k2') ∧ w1.cell? ⟨b', off' + j * 12 + 7, none⟩ = some (.int .i64 n2') ∧ w1.cell? ⟨b', off' + j * 12 + 8, none⟩ = some (.string s2') ∧ w1.cell? ⟨b', off' + j * 12 + 9, none⟩ = some (.slice xa2' x2'.length xc2') ∧ w1.cell? ⟨b', off' + j * 12 + 10, none⟩ = some (.slice a2' ms2'.length cap2') ∧ w1.cell? ⟨b', off' + j * 12 + 11, none⟩ = some (.slice a3' ms3'.length cap3')) := (by first | (simp (disch := omega) only [hc1, hs0, and_self, go_sem, World.cell?_drew]; done))
            refine hK.out _ _ (by (try dsimp only); first | exact hs1 | (first | (with_reducible exact hs0) | (with_reducible exact hs1) | (simp only [World.cell?_drew]; first | (with_reducible exact hs0) | (with_reducible exact hs1)))) (fun hHeld => ?_)
            clear hK K
            (try simp only [Act.put, List.setIfInBounds_toArray, List.set_cons_zero, List.set_cons_succ])
            refine wpAnyH_take (i := 23) (oi := ?oo323) (v := ?vv323) ?hi323 (by kernel_rfl) (by kernel_rfl) (by kernel_rfl) ?hq323 ?hw323 (by assumption) ?rest323
            case hi323 => (simp only [List.getElem?_toArray, List.getElem?_cons_succ, List.getElem?_cons_zero]; rfl)
            case hq323 => exact fun _ _ _ h => h
            case hw323 => (refine Or.inl ⟨by rfl, ?_⟩; intro w hSw; (try dsimp only at hSw); go_simp; try with_reducible rfl)
            (try simp only [Act.put, List.setIfInBounds_toArray, List.set_cons_zero, List.set_cons_succ])
            refine wpAnyH_take (i := 24) (oi := ?oo324) (v := ?vv324) ?hi324 (by kernel_rfl) (by kernel_rfl) (by kernel_rfl) ?hq324 ?hw324 (by assumption) ?rest324
            case hi324 => (simp only [List.getElem?_toArray, List.getElem?_cons_succ, List.getElem?_cons_zero]; rfl)
            case hq324 => exact fun _ _ _ h => h
            case hw324 => (refine Or.inl ⟨by rfl, ?_⟩; intro w hSw; (try dsimp only at hSw); go_simp; try with_reducible rfl)
            (try simp only [Act.put, List.setIfInBounds_toArray, List.set_cons_zero, List.set_cons_succ])
            refine wpAnyH_take (i := 25) (oi := ?oo325) (v := ?vv325) ?hi325 (by kernel_rfl) (by kernel_rfl) (by kernel_rfl) ?hq325 ?hw325 (by assumption) ?rest325
            case hi325 => (simp only [List.getElem?_toArray, List.getElem?_cons_succ, List.getElem?_cons_zero]; rfl)
            case hq325 => exact fun _ _ _ h => h
            case hw325 => (refine Or.inl ⟨by rfl, ?_⟩; intro w hSw; (try dsimp only at hSw); go_simp; try with_reducible rfl)
            (try simp only [Act.put, List.setIfInBounds_toArray, List.set_cons_zero, List.set_cons_succ])
            refine wpAnyH_take (i := 26) (oi := ?oo326) (v := undef) ?hi326 (by kernel_rfl) (by kernel_rfl) (by kernel_rfl) ?hq326 ?hw326 (by assumption) ?rest326
            case hi326 => (simp only [List.getElem?_toArray, List.getElem?_cons_succ, List.getElem?_cons_zero]; rfl)
            case hq326 => exact fun _ _ _ h => h
            case hw326 => exact Or.inr ⟨by rfl, rfl⟩
            (try simp only [Act.put, List.setIfInBounds_toArray, List.set_cons_zero, List.set_cons_succ])
            refine wpAnyH_take (i := 27) (oi := ?oo327) (v := undef) ?hi327 (by kernel_rfl) (by kernel_rfl) (by kernel_rfl) ?hq327 ?hw327 (by assumption) ?rest327
            case hi327 => (simp only [List.getElem?_toArray, List.getElem?_cons_succ, List.getElem?_cons_zero]; rfl)
            case hq327 => exact fun _ _ _ h => h
            case hw327 => exact Or.inr ⟨by rfl, rfl⟩
            (try simp only [Act.put, List.setIfInBounds_toArray, List.set_cons_zero, List.set_cons_succ])
            refine wpAnyH_take (i := 28) (oi := ?oo328) (v := undef) ?hi328 (by kernel_rfl) (by kernel_rfl) (by kernel_rfl) ?hq328 ?hw328 (by assumption) ?rest328
            case hi328 => (simp only [List.getElem?_toArray, List.getElem?_cons_succ, List.getElem?_cons_zero]; rfl)
            case hq328 => exact fun _ _ _ h => h
            case hw328 => exact Or.inr ⟨by rfl, rfl⟩
            (try simp only [Act.put, List.setIfInBounds_toArray, List.set_cons_zero, List.set_cons_succ])
            refine wpAnyH_take (i := 29) (oi := ?oo329) (v := undef) ?hi329 (by kernel_rfl) (by kernel_rfl) (by kernel_rfl) ?hq329 ?hw329 (by assumption) ?rest329
            case hi329 => (simp only [List.getElem?_toArray, List.getElem?_cons_succ, List.getElem?_cons_zero]; rfl)
            case hq329 => exact fun _ _ _ h => h
            case hw329 => exact Or.inr ⟨by rfl, rfl⟩
            (try simp only [Act.put, List.setIfInBounds_toArray, List.set_cons_zero, List.set_cons_succ])
            refine wpAnyH_take (i := 30) (oi := ?oo330) (v := undef) ?hi330 (by kernel_rfl) (by kernel_rfl) (by kernel_rfl) ?hq330 ?hw330 (by assumption) ?rest330
            case hi330 => (simp only [List.getElem?_toArray, List.getElem?_cons_succ, List.getElem?_cons_zero]; rfl)
            case hq330 => exact fun _ _ _ h => h
            case hw330 => exact Or.inr ⟨by rfl, rfl⟩
            (try simp only [Act.put, List.setIfInBounds_toArray, List.set_cons_zero, List.set_cons_succ])
            refine wpAnyH_take (i := 31) (oi := ?oo331) (v := undef) ?hi331 (by kernel_rfl) (by kernel_rfl) (by kernel_rfl) ?hq331 ?hw331 (by assumption) ?rest331
            case hi331 => (simp only [List.getElem?_toArray, List.getElem?_cons_succ, List.getElem?_cons_zero]; rfl)
            case hq331 => exact fun _ _ _ h => h
            case hw331 => exact Or.inr ⟨by rfl, rfl⟩
            (try simp only [Act.put, List.setIfInBounds_toArray, List.set_cons_zero, List.set_cons_succ])
            refine wpAnyH_take (i := 32) (oi := ?oo332) (v := undef) ?hi332 (by kernel_rfl) (by kernel_rfl) (by kernel_rfl) ?hq332 ?hw332 (by assumption) ?rest332
            case hi332 => (simp only [List.getElem?_toArray, List.getElem?_cons_succ, List.getElem?_cons_zero]; rfl)
            case hq332 => exact fun _ _ _ h => h
            case hw332 => exact Or.inr ⟨by rfl, rfl⟩
            (try simp only [Act.put, List.setIfInBounds_toArray, List.set_cons_zero, List.set_cons_succ])
            refine wpAnyH_take (i := 33) (oi := ?oo333) (v := undef) ?hi333 (by kernel_rfl) (by kernel_rfl) (by kernel_rfl) ?hq333 ?hw333 (by assumption) ?rest333
            case hi333 => (simp only [List.getElem?_toArray, List.getElem?_cons_succ, List.getElem?_cons_zero]; rfl)
            case hq333 => exact fun _ _ _ h => h
            case hw333 => exact Or.inr ⟨by rfl, rfl⟩
            (try simp only [Act.put, List.setIfInBounds_toArray, List.set_cons_zero, List.set_cons_succ])
            refine wpAnyH_take (i := 34) (oi := ?oo334) (v := undef) ?hi334 (by kernel_rfl) (by kernel_rfl) (by kernel_rfl) ?hq334 ?hw334 (by assumption) ?rest334
            case hi334 => (simp only [List.getElem?_toArray, List.getElem?_cons_succ, List.getElem?_cons_zero]; rfl)
            case hq334 => exact fun _ _ _ h => h
            case hw334 => exact Or.inr ⟨by rfl, rfl⟩
            (try simp only [Act.put, List.setIfInBounds_toArray, List.set_cons_zero, List.set_cons_succ])
            refine wpAnyH_take (i := 35) (oi := ?oo335) (v := undef) ?hi335 (by kernel_rfl) (by kernel_rfl) (by kernel_rfl) ?hq335 ?hw335 (by assumption) ?rest335
            case hi335 => (simp only [List.getElem?_toArray, List.getElem?_cons_succ, List.getElem?_cons_zero]; rfl)
            case hq335 => exact fun _ _ _ h => h
            case hw335 => exact Or.inr ⟨by rfl, rfl⟩
            (try simp only [Act.put, List.setIfInBounds_toArray, List.set_cons_zero, List.set_cons_succ])
            refine wpAnyH_ready (rs := [36]) (by kernel_rfl) (by simp) ?_
            refine AllReadyH.cons (o := _) rfl (fun K hK => ?_) AllReadyH.nil
            go_simp
            refine hK.out _ _ (by (try dsimp only); first | exact hHeld | (first | (with_reducible exact hs0) | (with_reducible exact hs1) | (simp only [World.cell?_drew]; first | (with_reducible exact hs0) | (with_reducible exact hs1)))) (fun hHeld => ?_)
            clear hK K
            (try simp only [Act.put, List.setIfInBounds_toArray, List.set_cons_zero, List.set_cons_succ])
            refine wpAnyH_take (i := 37) (oi := ?oo336) (v := undef) ?hi336 (by kernel_rfl) (by kernel_rfl) (by kernel_rfl) ?hq336 ?hw336 (by assumption) ?rest336
            case hi336 => (simp only [List.getElem?_toArray, List.getElem?_cons_succ, List.getElem?_cons_zero]; rfl)
            case hq336 => exact fun _ _ _ h => h
            case hw336 => exact Or.inr ⟨by rfl, rfl⟩
            (try simp only [Act.put, List.setIfInBounds_toArray, List.set_cons_zero, List.set_cons_succ])
            refine wpAnyH_take (i := 38) (oi := ?oo337) (v := ?vv337) ?hi337 (by kernel_rfl) (by kernel_rfl) (by kernel_rfl) ?hq337 ?hw337 (by assumption) ?rest337
            case hi337 => (simp only [List.getElem?_toArray, List.getElem?_cons_succ, List.getElem?_cons_zero]; rfl)
            case hq337 => exact fun _ _ _ h => h
            case hw337 => (refine Or.inl ⟨by rfl, ?_⟩; intro w hSw; (try dsimp only at hSw); go_simp; try with_reducible rfl)
            (try simp only [Act.put, List.setIfInBounds_toArray, List.set_cons_zero, List.set_cons_succ])
            refine wpAnyH_take (i := 39) (oi := ?oo338) (v := ?vv338) ?hi338 (by kernel_rfl) (by kernel_rfl) (by kernel_rfl) ?hq338 ?hw338 (by assumption) ?rest338
            case hi338 => (simp only [List.getElem?_toArray, List.getElem?_cons_succ, List.getElem?_cons_zero]; rfl)
            case hq338 => exact fun _ _ _ h => h
            case hw338 => (refine Or.inl ⟨by rfl, ?_⟩; intro w hSw; (try dsimp only at hSw); go_simp; try with_reducible rfl)
            (try simp only [Act.put, List.setIfInBounds_toArray, List.set_cons_zero, List.set_cons_succ])
            refine wpAnyH_take (i := 40) (oi := ?oo339) (v := undef) ?hi339 (by kernel_rfl) (by kernel_rfl) (by kernel_rfl) ?hq339 ?hw339 (by assumption) ?rest339
            case hi339 => (simp only [List.getElem?_toArray, List.getElem?_cons_succ, List.getElem?_cons_zero]; rfl)
            case hq339 => exact fun _ _ _ h => h
            case hw339 => exact Or.inr ⟨by rfl, rfl⟩
            (try simp only [Act.put, List.setIfInBounds_toArray, List.set_cons_zero, List.set_cons_succ])
            refine wpAnyH_take (i := 41) (oi := ?oo340) (v := undef) ?hi340 (by kernel_rfl) (by kernel_rfl) (by kernel_rfl) ?hq340 ?hw340 (by assumption) ?rest340
            case hi340 => (simp only [List.getElem?_toArray, List.getElem?_cons_succ, List.getElem?_cons_zero]; rfl)
            case hq340 => exact fun _ _ _ h => h
            case hw340 => exact Or.inr ⟨by rfl, rfl⟩
            (try simp only [Act.put, List.setIfInBounds_toArray, List.set_cons_zero, List.set_cons_succ])
            refine wpAnyH_take (i := 42) (oi := ?oo341) (v := undef) ?hi341 (by kernel_rfl) (by kernel_rfl) (by kernel_rfl) ?hq341 ?hw341 (by assumption) ?rest341
            case hi341 => (simp only [List.getElem?_toArray, List.getElem?_cons_succ, List.getElem?_cons_zero]; rfl)
            case hq341 => exact fun _ _ _ h => h
            case hw341 => exact Or.inr ⟨by rfl, rfl⟩
            (try simp only [Act.put, List.setIfInBounds_toArray, List.set_cons_zero, List.set_cons_succ])
            refine wpAnyH_take (i := 43) (oi := ?oo342) (v := undef) ?hi342 (by kernel_rfl) (by kernel_rfl) (by kernel_rfl) ?hq342 ?hw342 (by assumption) ?rest342
            case hi342 => (simp only [List.getElem?_toArray, List.getElem?_cons_succ, List.getElem?_cons_zero]; rfl)
            case hq342 => exact fun _ _ _ h => h
            case hw342 => exact Or.inr ⟨by rfl, rfl⟩
            (try simp only [Act.put, List.setIfInBounds_toArray, List.set_cons_zero, List.set_cons_succ])
            refine wpAnyH_take (i := 44) (oi := ?oo343) (v := undef) ?hi343 (by kernel_rfl) (by kernel_rfl) (by kernel_rfl) ?hq343 ?hw343 (by assumption) ?rest343
            case hi343 => (simp only [List.getElem?_toArray, List.getElem?_cons_succ, List.getElem?_cons_zero]; rfl)
            case hq343 => exact fun _ _ _ h => h
            case hw343 => exact Or.inr ⟨by rfl, rfl⟩
            (try simp only [Act.put, List.setIfInBounds_toArray, List.set_cons_zero, List.set_cons_succ])
            refine wpAnyH_take (i := 45) (oi := ?oo344) (v := undef) ?hi344 (by kernel_rfl) (by kernel_rfl) (by kernel_rfl) ?hq344 ?hw344 (by assumption) ?rest344
            case hi344 => (simp only [List.getElem?_toArray, List.getElem?_cons_succ, List.getElem?_cons_zero]; rfl)
            case hq344 => exact fun _ _ _ h => h
            case hw344 => exact Or.inr ⟨by rfl, rfl⟩
            (try simp only [Act.put, List.setIfInBounds_toArray, List.set_cons_zero, List.set_cons_succ])
            refine wpAnyH_take (i := 46) (oi := ?oo345) (v := undef) ?hi345 (by kernel_rfl) (by kernel_rfl) (by kernel_rfl) ?hq345 ?hw345 (by assumption) ?rest345
            case hi345 => (simp only [List.getElem?_toArray, List.getElem?_cons_succ, List.getElem?_cons_zero]; rfl)
            case hq345 => exact fun _ _ _ h => h
            case hw345 => exact Or.inr ⟨by rfl, rfl⟩
            (try simp only [Act.put, List.setIfInBounds_toArray, List.set_cons_zero, List.set_cons_succ])
            refine wpAnyH_take (i := 47) (oi := ?oo346) (v := undef) ?hi346 (by kernel_rfl) (by kernel_rfl) (by kernel_rfl) ?hq346 ?hw346 (by assumption) ?rest346
            case hi346 => (simp only [List.getElem?_toArray, List.getElem?_cons_succ, List.getElem?_cons_zero]; rfl)
            case hq346 => exact fun _ _ _ h => h
            case hw346 => exact Or.inr ⟨by rfl, rfl⟩
            (try simp only [Act.put, List.setIfInBounds_toArray, List.set_cons_zero, List.set_cons_succ])
            refine wpAnyH_take (i := 48) (oi := ?oo347) (v := undef) ?hi347 (by kernel_rfl) (by kernel_rfl) (by kernel_rfl) ?hq347 ?hw347 (by assumption) ?rest347
            case hi347 => (simp only [List.getElem?_toArray, List.getElem?_cons_succ, List.getElem?_cons_zero]; rfl)
            case hq347 => exact fun _ _ _ h => h
            case hw347 => exact Or.inr ⟨by rfl, rfl⟩
            (try simp only [Act.put, List.setIfInBounds_toArray, List.set_cons_zero, List.set_cons_succ])
            refine wpAnyH_take (i := 49) (oi := ?oo348) (v := undef) ?hi348 (by kernel_rfl) (by kernel_rfl) (by kernel_rfl) ?hq348 ?hw348 (by assumption) ?rest348
            case hi348 => (simp only [List.getElem?_toArray, List.getElem?_cons_succ, List.getElem?_cons_zero]; rfl)
            case hq348 => exact fun _ _ _ h => h
            case hw348 => exact Or.inr ⟨by rfl, rfl⟩
            (try simp only [Act.put, List.setIfInBounds_toArray, List.set_cons_zero, List.set_cons_succ])
            refine wpAnyH_ready (rs := [50]) (by kernel_rfl) (by simp) ?_
            refine AllReadyH.cons (o := _) rfl (fun K hK => ?_) AllReadyH.nil
            go_simp
            refine hK.out _ _ (by (try dsimp only); first | exact hHeld | (first | (with_reducible exact hs0) | (with_reducible exact hs1) | (simp only [World.cell?_drew]; first | (with_reducible exact hs0) | (with_reducible exact hs1)))) (fun hHeld => ?_)
            clear hK K
            (try simp only [Act.put, List.setIfInBounds_toArray, List.set_cons_zero, List.set_cons_succ])
            refine wpAnyH_take (i := 51) (oi := ?oo349) (v := undef) ?hi349 (by kernel_rfl) (by kernel_rfl) (by kernel_rfl) ?hq349 ?hw349 (by assumption) ?rest349
            case hi349 => (simp only [List.getElem?_toArray, List.getElem?_cons_succ, List.getElem?_cons_zero]; rfl)
            case hq349 => exact fun _ _ _ h => h
            case hw349 => exact Or.inr ⟨by rfl, rfl⟩
            (try simp only [Act.put, List.setIfInBounds_toArray, List.set_cons_zero, List.set_cons_succ])
            refine wpAnyH_take (i := 52) (oi := ?oo350) (v := ?vv350) ?hi350 (by kernel_rfl) (by kernel_rfl) (by kernel_rfl) ?hq350 ?hw350 (by assumption) ?rest350
            case hi350 => (simp only [List.getElem?_toArray, List.getElem?_cons_succ, List.getElem?_cons_zero]; rfl)
            case hq350 => exact fun _ _ _ h => h
            case hw350 => (refine Or.inl ⟨by rfl, ?_⟩; intro w hSw; (try dsimp only at hSw); go_simp; try with_reducible rfl)
            (try simp only [Act.put, List.setIfInBounds_toArray, List.set_cons_zero, List.set_cons_succ])
            refine wpAnyH_done (by kernel_rfl) ?_ _
            go_wp2_with fail
            go_ret
            exact ⟨ret_b ((capB_not _ _).2 HNE.out).symm, by (repeat (first | with_reducible assumption | with_reducible exact Below.refl _ _ | with_reducible refine Below.drew ?_ | with_reducible refine belowDrewN ?_ _ | ((with_reducible refine Below.setCell ?_ ?_ _); rotate_left; focus (first | omega | (simp; done) | (simp; omega))) | ((with_reducible refine Below.alloc ?_ ?_ _); rotate_left; focus (first | omega | (simp; done) | (simp; omega))) | ((with_reducible refine Below.trans ?_ (Below.mono hb1 ?_)); rotate_left; focus (first | omega | (simp; done) | (simp; omega)))))⟩
        · have hD : (D != D') = true := by simp [heD]
          have hne := ne_of_get hd hd' (fun e => heD (by injection e))
          have HI1 := Lib.hid hi1; clear hi1; have HI2 := Lib.hid hi2; clear hi2; have HI3 := Lib.hid hi3; clear hi3; have HIN3 := Lib.hid hin3; clear hin3; have HI1' := Lib.hid hi1'; clear hi1'; have HI2' := Lib.hid hi2'; clear hi2'; have HI3' := Lib.hid hi3'; clear hi3'; have HIN3' := Lib.hid hin3'; clear hin3'; have HD := Lib.hid hd; clear hd; have HD' := Lib.hid hd'; clear hd'; have HPRE := Lib.hid hpre; clear hpre; have HED := Lib.hid heD; clear heD; have HNE := Lib.hid hne; clear hne
          go_wp2_with fail
          refine wp_region_held_drew (S := fun w' => (w'.cell? ⟨b, off + j * 12, none⟩ = some (.int .i64 k1) ∧ w'.cell? ⟨b, off + j * 12 + 1, none⟩ = some (.int .i64 n1) ∧ w'.cell? ⟨b, off + j * 12 + 2, none⟩ = some (.string s1) ∧ w'.cell? ⟨b, off + j * 12 + 3, none⟩ = some (.slice xa1 x1.length xc1) ∧ w'.cell? ⟨b, off + j * 12 + 4, none⟩ = some (.slice a1 ms1.length cap1) ∧ w'.cell? ⟨b, off + j * 12 + 5, none⟩ = some (.int .i64 D) ∧ w'.cell? ⟨b, off + j * 12 + 6, none⟩ = some (.int .i64 k2) ∧ w'.cell? ⟨b, off + j * 12 + 7, none⟩ = some (.int .i64 n2) ∧ w'.cell? ⟨b, off + j * 12 + 8, none⟩ = some (.string s2) ∧ w'.cell? ⟨b, off + j * 12 + 9, none⟩ = some (.slice xa2 x2.length xc2) ∧ w'.cell? ⟨b, off + j * 12 + 10, none⟩ = some (.slice a2 ms2.length cap2) ∧ w'.cell? ⟨b, off + j * 12 + 11, none⟩ = some (.slice a3 ms3.length cap3) ∧ w'.cell? ⟨b', off' + j * 12, none⟩ = some (.int .i64 k1') ∧ w'.cell? ⟨b', off' + j * 12 + 1, none⟩ = some (.int .i64 n1') ∧ w'.cell? ⟨b', off' + j * 12 + 2, none⟩ = some (.string s1') ∧ w'.cell? ⟨b', off' + j * 12 + 3, none⟩ = some (.slice xa1' x1'.length xc1') ∧ w'.cell? ⟨b', off' + j * 12 + 4, none⟩ = some (.slice a1' ms1'.length cap1') ∧ w'.cell? ⟨b', off' + j * 12 + 5, none⟩ = some (.int .i64 D') ∧ w'.cell? ⟨b', off' + j * 12 + 6, none⟩ = some (.int .i64 k2') ∧ w'.cell? ⟨b', off' + j * 12 + 7, none⟩ = some (.int .i64 n2') ∧ w'.cell? ⟨b', off' + j * 12 + 8, none⟩ = some (.string s2') ∧ w'.cell? ⟨b', off' + j * 12 + 9, none⟩ = some (.slice xa2' x2'.length xc2') ∧ w'.cell? ⟨b', off' + j * 12 + 10, none⟩ = some (.slice a2' ms2'.length cap2') ∧ w'.cell? ⟨b', off' + j * 12 + 11, none⟩ = some (.slice a3' ms3'.length cap3'))) (by kernel_rfl) ?_ (fun hHeld => ?_)
          · (first | (with_reducible exact hs0) | (simp only [World.cell?_drew]; first | (with_reducible exact hs0)))
          refine wpAnyH_take (i := 0) (oi := ?oo351) (v := ?vv351) ?hi351 (by kernel_rfl) (by kernel_rfl) (by kernel_rfl) ?hq351 ?hw351 (by assumption) ?rest351
          case hi351 => (simp only [List.getElem?_toArray, List.getElem?_cons_succ, List.getElem?_cons_zero]; rfl)
          case hq351 => exact fun _ _ _ h => h
          case hw351 => (refine Or.inl ⟨by rfl, ?_⟩; intro w hSw; (try dsimp only at hSw); go_simp; try with_reducible rfl)
          (try simp only [Act.put, List.setIfInBounds_toArray, List.set_cons_zero, List.set_cons_succ])
          refine wpAnyH_take (i := 1) (oi := ?oo352) (v := ?vv352) ?hi352 (by kernel_rfl) (by kernel_rfl) (by kernel_rfl) ?hq352 ?hw352 (by assumption) ?rest352
          case hi352 => (simp only [List.getElem?_toArray, List.getElem?_cons_succ, List.getElem?_cons_zero]; rfl)
          case hq352 => exact fun _ _ _ h => h
          case hw352 => (refine Or.inl ⟨by rfl, ?_⟩; intro w hSw; (try dsimp only at hSw); go_simp; try with_reducible rfl)
          (try simp only [Act.put, List.setIfInBounds_toArray, List.set_cons_zero, List.set_cons_succ])
          refine wpAnyH_take (i := 2) (oi := ?oo353) (v := ?vv353) ?hi353 (by kernel_rfl) (by kernel_rfl) (by kernel_rfl) ?hq353 ?hw353 (by assumption) ?rest353
          case hi353 => (simp only [List.getElem?_toArray, List.getElem?_cons_succ, List.getElem?_cons_zero]; rfl)
          case hq353 => exact fun _ _ _ h => h
          case hw353 => (refine Or.inl ⟨by rfl, ?_⟩; intro w hSw; (try dsimp only at hSw); go_simp; try with_reducible rfl)
          (try simp only [Act.put, List.setIfInBounds_toArray, List.set_cons_zero, List.set_cons_succ])
          refine wpAnyH_take (i := 3) (oi := ?oo354) (v := ?vv354) ?hi354 (by kernel_rfl) (by kernel_rfl) (by kernel_rfl) ?hq354 ?hw354 (by assumption) ?rest354
          case hi354 => (simp only [List.getElem?_toArray, List.getElem?_cons_succ, List.getElem?_cons_zero]; rfl)
          case hq354 => exact fun _ _ _ h => h
          case hw354 => (refine Or.inl ⟨by rfl, ?_⟩; intro w hSw; (try dsimp only at hSw); go_simp; try with_reducible rfl)
          (try simp only [Act.put, List.setIfInBounds_toArray, List.set_cons_zero, List.set_cons_succ])
          refine wpAnyH_take (i := 4) (oi := ?oo355) (v := ?vv355) ?hi355 (by kernel_rfl) (by kernel_rfl) (by kernel_rfl) ?hq355 ?hw355 (by assumption) ?rest355
          case hi355 => (simp only [List.getElem?_toArray, List.getElem?_cons_succ, List.getElem?_cons_zero]; rfl)
          case hq355 => exact fun _ _ _ h => h
          case hw355 => (refine Or.inl ⟨by rfl, ?_⟩; intro w hSw; (try dsimp only at hSw); go_simp; try with_reducible rfl)
          (try simp only [Act.put, List.setIfInBounds_toArray, List.set_cons_zero, List.set_cons_succ])
          refine wpAnyH_take (i := 5) (oi := ?oo356) (v := ?vv356) ?hi356 (by kernel_rfl) (by kernel_rfl) (by kernel_rfl) ?hq356 ?hw356 (by assumption) ?rest356
          case hi356 => (simp only [List.getElem?_toArray, List.getElem?_cons_succ, List.getElem?_cons_zero]; rfl)
          case hq356 => exact fun _ _ _ h => h
          case hw356 => (refine Or.inl ⟨by rfl, ?_⟩; intro w hSw; (try dsimp only at hSw); go_simp; try with_reducible rfl)
          (try simp only [Act.put, List.setIfInBounds_toArray, List.set_cons_zero, List.set_cons_succ])
          refine wpAnyH_take (i := 6) (oi := ?oo357) (v := ?vv357) ?hi357 (by kernel_rfl) (by kernel_rfl) (by kernel_rfl) ?hq357 ?hw357 (by assumption) ?rest357
          case hi357 => (simp only [List.getElem?_toArray, List.getElem?_cons_succ, List.getElem?_cons_zero]; rfl)
          case hq357 => exact fun _ _ _ h => h
          case hw357 => (refine Or.inl ⟨by rfl, ?_⟩; intro w hSw; (try dsimp only at hSw); go_simp; try with_reducible rfl)
          (try simp only [Act.put, List.setIfInBounds_toArray, List.set_cons_zero, List.set_cons_succ])
          refine wpAnyH_take (i := 7) (oi := ?oo358) (v := ?vv358) ?hi358 (by kernel_rfl) (by kernel_rfl) (by kernel_rfl) ?hq358 ?hw358 (by assumption) ?rest358
          case hi358 => (simp only [List.getElem?_toArray, List.getElem?_cons_succ, List.getElem?_cons_zero]; rfl)
          case hq358 => exact fun _ _ _ h => h
          case hw358 => (refine Or.inl ⟨by rfl, ?_⟩; intro w hSw; (try dsimp only at hSw); go_simp; try with_reducible rfl)
          (try simp only [Act.put, List.setIfInBounds_toArray, List.set_cons_zero, List.set_cons_succ])
          refine wpAnyH_take (i := 8) (oi := ?oo359) (v := ?vv359) ?hi359 (by kernel_rfl) (by kernel_rfl) (by kernel_rfl) ?hq359 ?hw359 (by assumption) ?rest359
          case hi359 => (simp only [List.getElem?_toArray, List.getElem?_cons_succ, List.getElem?_cons_zero]; rfl)
          case hq359 => exact fun _ _ _ h => h
          case hw359 => (refine Or.inl ⟨by rfl, ?_⟩; intro w hSw; (try dsimp only at hSw); go_simp; try with_reducible rfl)
          (try simp only [Act.put, List.setIfInBounds_toArray, List.set_cons_zero, List.set_cons_succ])
          refine wpAnyH_take (i := 9) (oi := ?oo360) (v := ?vv360) ?hi360 (by kernel_rfl) (by kernel_rfl) (by kernel_rfl) ?hq360 ?hw360 (by assumption) ?rest360
          case hi360 => (simp only [List.getElem?_toArray, List.getElem?_cons_succ, List.getElem?_cons_zero]; rfl)
          case hq360 => exact fun _ _ _ h => h
          case hw360 => (refine Or.inl ⟨by rfl, ?_⟩; intro w hSw; (try dsimp only at hSw); go_simp; try with_reducible rfl)
          (try simp only [Act.put, List.setIfInBounds_toArray, List.set_cons_zero, List.set_cons_succ])
          refine wpAnyH_take (i := 10) (oi := ?oo361) (v := ?vv361) ?hi361 (by kernel_rfl) (by kernel_rfl) (by kernel_rfl) ?hq361 ?hw361 (by assumption) ?rest361
          case hi361 => (simp only [List.getElem?_toArray, List.getElem?_cons_succ, List.getElem?_cons_zero]; rfl)
          case hq361 => exact fun _ _ _ h => h
          case hw361 => (refine Or.inl ⟨by rfl, ?_⟩; intro w hSw; (try dsimp only at hSw); go_simp; try with_reducible rfl)
          (try simp only [Act.put, List.setIfInBounds_toArray, List.set_cons_zero, List.set_cons_succ])
          refine wpAnyH_take (i := 11) (oi := ?oo362) (v := ?vv362) ?hi362 (by kernel_rfl) (by kernel_rfl) (by kernel_rfl) ?hq362 ?hw362 (by assumption) ?rest362
          case hi362 => (simp only [List.getElem?_toArray, List.getElem?_cons_succ, List.getElem?_cons_zero]; rfl)
          case hq362 => exact fun _ _ _ h => h
          case hw362 => (refine Or.inl ⟨by rfl, ?_⟩; intro w hSw; (try dsimp only at hSw); go_simp; try with_reducible rfl)
          (try simp only [Act.put, List.setIfInBounds_toArray, List.set_cons_zero, List.set_cons_succ])
          refine wpAnyH_take (i := 12) (oi := ?oo363) (v := undef) ?hi363 (by kernel_rfl) (by kernel_rfl) (by kernel_rfl) ?hq363 ?hw363 (by assumption) ?rest363
          case hi363 => (simp only [List.getElem?_toArray, List.getElem?_cons_succ, List.getElem?_cons_zero]; rfl)
          case hq363 => exact fun _ _ _ h => h
          case hw363 => exact Or.inr ⟨by rfl, rfl⟩
          (try simp only [Act.put, List.setIfInBounds_toArray, List.set_cons_zero, List.set_cons_succ])
          refine wpAnyH_take (i := 13) (oi := ?oo364) (v := undef) ?hi364 (by kernel_rfl) (by kernel_rfl) (by kernel_rfl) ?hq364 ?hw364 (by assumption) ?rest364
          case hi364 => (simp only [List.getElem?_toArray, List.getElem?_cons_succ, List.getElem?_cons_zero]; rfl)
          case hq364 => exact fun _ _ _ h => h
          case hw364 => exact Or.inr ⟨by rfl, rfl⟩
          (try simp only [Act.put, List.setIfInBounds_toArray, List.set_cons_zero, List.set_cons_succ])
          refine wpAnyH_take (i := 14) (oi := ?oo365) (v := undef) ?hi365 (by kernel_rfl) (by kernel_rfl) (by kernel_rfl) ?hq365 ?hw365 (by assumption) ?rest365
          case hi365 => (simp only [List.getElem?_toArray, List.getElem?_cons_succ, List.getElem?_cons_zero]; rfl)
          case hq365 => exact fun _ _ _ h => h
          case hw365 => exact Or.inr ⟨by rfl, rfl⟩
          (try simp only [Act.put, List.setIfInBounds_toArray, List.set_cons_zero, List.set_cons_succ])
          refine wpAnyH_take (i := 15) (oi := ?oo366) (v := undef) ?hi366 (by kernel_rfl) (by kernel_rfl) (by kernel_rfl) ?hq366 ?hw366 (by assumption) ?rest366
          case hi366 => (simp only [List.getElem?_toArray, List.getElem?_cons_succ, List.getElem?_cons_zero]; rfl)
          case hq366 => exact fun _ _ _ h => h
          case hw366 => exact Or.inr ⟨by rfl, rfl⟩
          (try simp only [Act.put, List.setIfInBounds_toArray, List.set_cons_zero, List.set_cons_succ])
          refine wpAnyH_take (i := 16) (oi := ?oo367) (v := undef) ?hi367 (by kernel_rfl) (by kernel_rfl) (by kernel_rfl) ?hq367 ?hw367 (by assumption) ?rest367
          case hi367 => (simp only [List.getElem?_toArray, List.getElem?_cons_succ, List.getElem?_cons_zero]; rfl)
          case hq367 => exact fun _ _ _ h => h
          case hw367 => exact Or.inr ⟨by rfl, rfl⟩
          (try simp only [Act.put, List.setIfInBounds_toArray, List.set_cons_zero, List.set_cons_succ])
          refine wpAnyH_take (i := 17) (oi := ?oo368) (v := undef) ?hi368 (by kernel_rfl) (by kernel_rfl) (by kernel_rfl) ?hq368 ?hw368 (by assumption) ?rest368
          case hi368 => (simp only [List.getElem?_toArray, List.getElem?_cons_succ, List.getElem?_cons_zero]; rfl)
          case hq368 => exact fun _ _ _ h => h
          case hw368 => exact Or.inr ⟨by rfl, rfl⟩
          (try simp only [Act.put, List.setIfInBounds_toArray, List.set_cons_zero, List.set_cons_succ])
          refine wpAnyH_take (i := 18) (oi := ?oo369) (v := undef) ?hi369 (by kernel_rfl) (by kernel_rfl) (by kernel_rfl) ?hq369 ?hw369 (by assumption) ?rest369
          case hi369 => (simp only [List.getElem?_toArray, List.getElem?_cons_succ, List.getElem?_cons_zero]; rfl)
          case hq369 => exact fun _ _ _ h => h
          case hw369 => exact Or.inr ⟨by rfl, rfl⟩
          (try simp only [Act.put, List.setIfInBounds_toArray, List.set_cons_zero, List.set_cons_succ])
          refine wpAnyH_take (i := 19) (oi := ?oo370) (v := undef) ?hi370 (by kernel_rfl) (by kernel_rfl) (by kernel_rfl) ?hq370 ?hw370 (by assumption) ?rest370
          case hi370 => (simp only [List.getElem?_toArray, List.getElem?_cons_succ, List.getElem?_cons_zero]; rfl)
          case hq370 => exact fun _ _ _ h => h
          case hw370 => exact Or.inr ⟨by rfl, rfl⟩
          (try simp only [Act.put, List.setIfInBounds_toArray, List.set_cons_zero, List.set_cons_succ])
          refine wpAnyH_take (i := 20) (oi := ?oo371) (v := undef) ?hi371 (by kernel_rfl) (by kernel_rfl) (by kernel_rfl) ?hq371 ?hw371 (by assumption) ?rest371
          case hi371 => (simp only [List.getElem?_toArray, List.getElem?_cons_succ, List.getElem?_cons_zero]; rfl)
          case hq371 => exact fun _ _ _ h => h
          case hw371 => exact Or.inr ⟨by rfl, rfl⟩
          (try simp only [Act.put, List.setIfInBounds_toArray, List.set_cons_zero, List.set_cons_succ])
          refine wpAnyH_take (i := 21) (oi := ?oo372) (v := undef) ?hi372 (by kernel_rfl) (by kernel_rfl) (by kernel_rfl) ?hq372 ?hw372 (by assumption) ?rest372
          case hi372 => (simp only [List.getElem?_toArray, List.getElem?_cons_succ, List.getElem?_cons_zero]; rfl)
          case hq372 => exact fun _ _ _ h => h
          case hw372 => exact Or.inr ⟨by rfl, rfl⟩
          (try simp only [Act.put, List.setIfInBounds_toArray, List.set_cons_zero, List.set_cons_succ])
          refine wpAnyH_ready (rs := [22]) (by kernel_rfl) (by simp) ?_
          refine AllReadyH.cons (o := _) rfl (fun K hK => ?_) AllReadyH.nil
          go_simp
          refine hK.out _ _ (by (try dsimp only); first | exact hHeld | (first | (with_reducible exact hs0) | (simp only [World.cell?_drew]; first | (with_reducible exact hs0)))) (fun hHeld => ?_)
          clear hK K
          (try simp only [Act.put, List.setIfInBounds_toArray, List.set_cons_zero, List.set_cons_succ])
          refine wpAnyH_take (i := 23) (oi := ?oo373) (v := undef) ?hi373 (by kernel_rfl) (by kernel_rfl) (by kernel_rfl) ?hq373 ?hw373 (by assumption) ?rest373
          case hi373 => (simp only [List.getElem?_toArray, List.getElem?_cons_succ, List.getElem?_cons_zero]; rfl)
          case hq373 => exact fun _ _ _ h => h
          case hw373 => exact Or.inr ⟨by rfl, rfl⟩
          (try simp only [Act.put, List.setIfInBounds_toArray, List.set_cons_zero, List.set_cons_succ])
          refine wpAnyH_take (i := 24) (oi := ?oo374) (v := ?vv374) ?hi374 (by kernel_rfl) (by kernel_rfl) (by kernel_rfl) ?hq374 ?hw374 (by assumption) ?rest374
          case hi374 => (simp only [List.getElem?_toArray, List.getElem?_cons_succ, List.getElem?_cons_zero]; rfl)
          case hq374 => exact fun _ _ _ h => h
          case hw374 => (refine Or.inl ⟨by rfl, ?_⟩; intro w hSw; (try dsimp only at hSw); go_simp; try with_reducible rfl)
          (try simp only [Act.put, List.setIfInBounds_toArray, List.set_cons_zero, List.set_cons_succ])
          refine wpAnyH_take (i := 25) (oi := ?oo375) (v := ?vv375) ?hi375 (by kernel_rfl) (by kernel_rfl) (by kernel_rfl) ?hq375 ?hw375 (by assumption) ?rest375
          case hi375 => (simp only [List.getElem?_toArray, List.getElem?_cons_succ, List.getElem?_cons_zero]; rfl)
          case hq375 => exact fun _ _ _ h => h
          case hw375 => (refine Or.inl ⟨by rfl, ?_⟩; intro w hSw; (try dsimp only at hSw); go_simp; try with_reducible rfl)
          (try simp only [Act.put, List.setIfInBounds_toArray, List.set_cons_zero, List.set_cons_succ])
          refine wpAnyH_take (i := 26) (oi := ?oo376) (v := undef) ?hi376 (by kernel_rfl) (by kernel_rfl) (by kernel_rfl) ?hq376 ?hw376 (by assumption) ?rest376
          case hi376 => (simp only [List.getElem?_toArray, List.getElem?_cons_succ, List.getElem?_cons_zero]; rfl)
          case hq376 => exact fun _ _ _ h => h
          case hw376 => exact Or.inr ⟨by rfl, rfl⟩
          (try simp only [Act.put, List.setIfInBounds_toArray, List.set_cons_zero, List.set_cons_succ])
          refine wpAnyH_take (i := 27) (oi := ?oo377) (v := undef) ?hi377 (by kernel_rfl) (by kernel_rfl) (by kernel_rfl) ?hq377 ?hw377 (by assumption) ?rest377
          case hi377 => (simp only [List.getElem?_toArray, List.getElem?_cons_succ, List.getElem?_cons_zero]; rfl)
          case hq377 => exact fun _ _ _ h => h
          case hw377 => exact Or.inr ⟨by rfl, rfl⟩
          (try simp only [Act.put, List.setIfInBounds_toArray, List.set_cons_zero, List.set_cons_succ])
          refine wpAnyH_take (i := 28) (oi := ?oo378) (v := undef) ?hi378 (by kernel_rfl) (by kernel_rfl) (by kernel_rfl) ?hq378 ?hw378 (by assumption) ?rest378
          case hi378 => (simp only [List.getElem?_toArray, List.getElem?_cons_succ, List.getElem?_cons_zero]; rfl)
          case hq378 => exact fun _ _ _ h => h
          case hw378 => exact Or.inr ⟨by rfl, rfl⟩
          (try simp only [Act.put, List.setIfInBounds_toArray, List.set_cons_zero, List.set_cons_succ])
          refine wpAnyH_take (i := 29) (oi := ?oo379) (v := undef) ?hi379 (by kernel_rfl) (by kernel_rfl) (by kernel_rfl) ?hq379 ?hw379 (by assumption) ?rest379
          case hi379 => (simp only [List.getElem?_toArray, List.getElem?_cons_succ, List.getElem?_cons_zero]; rfl)
          case hq379 => exact fun _ _ _ h => h
          case hw379 => exact Or.inr ⟨by rfl, rfl⟩
          (try simp only [Act.put, List.setIfInBounds_toArray, List.set_cons_zero, List.set_cons_succ])
          refine wpAnyH_take (i := 30) (oi := ?oo380) (v := undef) ?hi380 (by kernel_rfl) (by kernel_rfl) (by kernel_rfl) ?hq380 ?hw380 (by assumption) ?rest380
          case hi380 => (simp only [List.getElem?_toArray, List.getElem?_cons_succ, List.getElem?_cons_zero]; rfl)
          case hq380 => exact fun _ _ _ h => h
          case hw380 => exact Or.inr ⟨by rfl, rfl⟩
          (try simp only [Act.put, List.setIfInBounds_toArray, List.set_cons_zero, List.set_cons_succ])
          refine wpAnyH_take (i := 31) (oi := ?oo381) (v := undef) ?hi381 (by kernel_rfl) (by kernel_rfl) (by kernel_rfl) ?hq381 ?hw381 (by assumption) ?rest381
          case hi381 => (simp only [List.getElem?_toArray, List.getElem?_cons_succ, List.getElem?_cons_zero]; rfl)
          case hq381 => exact fun _ _ _ h => h
          case hw381 => exact Or.inr ⟨by rfl, rfl⟩
          (try simp only [Act.put, List.setIfInBounds_toArray, List.set_cons_zero, List.set_cons_succ])
          refine wpAnyH_take (i := 32) (oi := ?oo382) (v := undef) ?hi382 (by kernel_rfl) (by kernel_rfl) (by kernel_rfl) ?hq382 ?hw382 (by assumption) ?rest382
          case hi382 => (simp only [List.getElem?_toArray, List.getElem?_cons_succ, List.getElem?_cons_zero]; rfl)
          case hq382 => exact fun _ _ _ h => h
          case hw382 => exact Or.inr ⟨by rfl, rfl⟩
          (try simp only [Act.put, List.setIfInBounds_toArray, List.set_cons_zero, List.set_cons_succ])
          refine wpAnyH_take (i := 33) (oi := ?oo383) (v := undef) ?hi383 (by kernel_rfl) (by kernel_rfl) (by kernel_rfl) ?hq383 ?hw383 (by assumption) ?rest383
          case hi383 => (simp only [List.getElem?_toArray, List.getElem?_cons_succ, List.getElem?_cons_zero]; rfl)
          case hq383 => exact fun _ _ _ h => h
          case hw383 => exact Or.inr ⟨by rfl, rfl⟩
          (try simp only [Act.put, List.setIfInBounds_toArray, List.set_cons_zero, List.set_cons_succ])
          refine wpAnyH_take (i := 34) (oi := ?oo384) (v := undef) ?hi384 (by kernel_rfl) (by kernel_rfl) (by kernel_rfl) ?hq384 ?hw384 (by assumption) ?rest384
          case hi384 => (simp only [List.getElem?_toArray, List.getElem?_cons_succ, List.getElem?_cons_zero]; rfl)
          case hq384 => exact fun _ _ _ h => h
          case hw384 => exact Or.inr ⟨by rfl, rfl⟩
          (try simp only [Act.put, List.setIfInBounds_toArray, List.set_cons_zero, List.set_cons_succ])
          refine wpAnyH_take (i := 35) (oi := ?oo385) (v := undef) ?hi385 (by kernel_rfl) (by kernel_rfl) (by kernel_rfl) ?hq385 ?hw385 (by assumption) ?rest385
          case hi385 => (simp only [List.getElem?_toArray, List.getElem?_cons_succ, List.getElem?_cons_zero]; rfl)
          case hq385 => exact fun _ _ _ h => h
          case hw385 => exact Or.inr ⟨by rfl, rfl⟩
          (try simp only [Act.put, List.setIfInBounds_toArray, List.set_cons_zero, List.set_cons_succ])
          refine wpAnyH_ready (rs := [36]) (by kernel_rfl) (by simp) ?_
          refine AllReadyH.cons (o := _) rfl (fun K hK => ?_) AllReadyH.nil
          go_simp
          refine hK.out _ _ (by (try dsimp only); first | exact hHeld | (first | (with_reducible exact hs0) | (simp only [World.cell?_drew]; first | (with_reducible exact hs0)))) (fun hHeld => ?_)
          clear hK K
          (try simp only [Act.put, List.setIfInBounds_toArray, List.set_cons_zero, List.set_cons_succ])
          refine wpAnyH_take (i := 37) (oi := ?oo386) (v := undef) ?hi386 (by kernel_rfl) (by kernel_rfl) (by kernel_rfl) ?hq386 ?hw386 (by assumption) ?rest386
          case hi386 => (simp only [List.getElem?_toArray, List.getElem?_cons_succ, List.getElem?_cons_zero]; rfl)
          case hq386 => exact fun _ _ _ h => h
          case hw386 => exact Or.inr ⟨by rfl, rfl⟩
          (try simp only [Act.put, List.setIfInBounds_toArray, List.set_cons_zero, List.set_cons_succ])
          refine wpAnyH_take (i := 38) (oi := ?oo387) (v := ?vv387) ?hi387 (by kernel_rfl) (by kernel_rfl) (by kernel_rfl) ?hq387 ?hw387 (by assumption) ?rest387
          case hi387 => (simp only [List.getElem?_toArray, List.getElem?_cons_succ, List.getElem?_cons_zero]; rfl)
          case hq387 => exact fun _ _ _ h => h
          case hw387 => (refine Or.inl ⟨by rfl, ?_⟩; intro w hSw; (try dsimp only at hSw); go_simp; try with_reducible rfl)
          (try simp only [Act.put, List.setIfInBounds_toArray, List.set_cons_zero, List.set_cons_succ])
          refine wpAnyH_take (i := 39) (oi := ?oo388) (v := ?vv388) ?hi388 (by kernel_rfl) (by kernel_rfl) (by kernel_rfl) ?hq388 ?hw388 (by assumption) ?rest388
          case hi388 => (simp only [List.getElem?_toArray, List.getElem?_cons_succ, List.getElem?_cons_zero]; rfl)
          case hq388 => exact fun _ _ _ h => h
          case hw388 => (refine Or.inl ⟨by rfl, ?_⟩; intro w hSw; (try dsimp only at hSw); go_simp; try with_reducible rfl)
          (try simp only [Act.put, List.setIfInBounds_toArray, List.set_cons_zero, List.set_cons_succ])
          refine wpAnyH_take (i := 40) (oi := ?oo389) (v := undef) ?hi389 (by kernel_rfl) (by kernel_rfl) (by kernel_rfl) ?hq389 ?hw389 (by assumption) ?rest389
          case hi389 => (simp only [List.getElem?_toArray, List.getElem?_cons_succ, List.getElem?_cons_zero]; rfl)
          case hq389 => exact fun _ _ _ h => h
          case hw389 => exact Or.inr ⟨by rfl, rfl⟩
          (try simp only [Act.put, List.setIfInBounds_toArray, List.set_cons_zero, List.set_cons_succ])
          refine wpAnyH_take (i := 41) (oi := ?oo390) (v := undef) ?hi390 (by kernel_rfl) (by kernel_rfl) (by kernel_rfl) ?hq390 ?hw390 (by assumption) ?rest390
          case hi390 => (simp only [List.getElem?_toArray, List.getElem?_cons_succ, List.getElem?_cons_zero]; rfl)
          case hq390 => exact fun _ _ _ h => h
          case hw390 => exact Or.inr ⟨by rfl, rfl⟩
          (try simp only [Act.put, List.setIfInBounds_toArray, List.set_cons_zero, List.set_cons_succ])
          refine wpAnyH_take (i := 42) (oi := ?oo391) (v := undef) ?hi391 (by kernel_rfl) (by kernel_rfl) (by kernel_rfl) ?hq391 ?hw391 (by assumption) ?rest391
          case hi391 => (simp only [List.getElem?_toArray, List.getElem?_cons_succ, List.getElem?_cons_zero]; rfl)
          case hq391 => exact fun _ _ _ h => h
          case hw391 => exact Or.inr ⟨by rfl, rfl⟩
          (try simp only [Act.put, List.setIfInBounds_toArray, List.set_cons_zero, List.set_cons_succ])
          refine wpAnyH_take (i := 43) (oi := ?oo392) (v := undef) ?hi392 (by kernel_rfl) (by kernel_rfl) (by kernel_rfl) ?hq392 ?hw392 (by assumption) ?rest392
          case hi392 => (simp only [List.getElem?_toArray, List.getElem?_cons_succ, List.getElem?_cons_zero]; rfl)
          case hq392 => exact fun _ _ _ h => h
          case hw392 => exact Or.inr ⟨by rfl, rfl⟩
          (try simp only [Act.put, List.setIfInBounds_toArray, List.set_cons_zero, List.set_cons_succ])
          refine wpAnyH_take (i := 44) (oi := ?oo393) (v := undef) ?hi393 (by kernel_rfl) (by kernel_rfl) (by kernel_rfl) ?hq393 ?hw393 (by assumption) ?rest393
          case hi393 => (simp only [List.getElem?_toArray, List.getElem?_cons_succ, List.getElem?_cons_zero]; rfl)
          case hq393 => exact fun _ _ _ h => h
          case hw393 => exact Or.inr ⟨by rfl, rfl⟩
          (try simp only [Act.put, List.setIfInBounds_toArray, List.set_cons_zero, List.set_cons_succ])
          refine wpAnyH_take (i := 45) (oi := ?oo394) (v := undef) ?hi394 (by kernel_rfl) (by kernel_rfl) (by kernel_rfl) ?hq394 ?hw394 (by assumption) ?rest394
          case hi394 => (simp only [List.getElem?_toArray, List.getElem?_cons_succ, List.getElem?_cons_zero]; rfl)
          case hq394 => exact fun _ _ _ h => h
          case hw394 => exact Or.inr ⟨by rfl, rfl⟩
          (try simp only [Act.put, List.setIfInBounds_toArray, List.set_cons_zero, List.set_cons_succ])
          refine wpAnyH_take (i := 46) (oi := ?oo395) (v := undef) ?hi395 (by kernel_rfl) (by kernel_rfl) (by kernel_rfl) ?hq395 ?hw395 (by assumption) ?rest395
          case hi395 => (simp only [List.getElem?_toArray, List.getElem?_cons_succ, List.getElem?_cons_zero]; rfl)
          case hq395 => exact fun _ _ _ h => h
          case hw395 => exact Or.inr ⟨by rfl, rfl⟩
          (try simp only [Act.put, List.setIfInBounds_toArray, List.set_cons_zero, List.set_cons_succ])
          refine wpAnyH_take (i := 47) (oi := ?oo396) (v := undef) ?hi396 (by kernel_rfl) (by kernel_rfl) (by kernel_rfl) ?hq396 ?hw396 (by assumption) ?rest396
          case hi396 => (simp only [List.getElem?_toArray, List.getElem?_cons_succ, List.getElem?_cons_zero]; rfl)
          case hq396 => exact fun _ _ _ h => h
          case hw396 => exact Or.inr ⟨by rfl, rfl⟩
          (try simp only [Act.put, List.setIfInBounds_toArray, List.set_cons_zero, List.set_cons_succ])
          refine wpAnyH_take (i := 48) (oi := ?oo397) (v := undef) ?hi397 (by kernel_rfl) (by kernel_rfl) (by kernel_rfl) ?hq397 ?hw397 (by assumption) ?rest397
          case hi397 => (simp only [List.getElem?_toArray, List.getElem?_cons_succ, List.getElem?_cons_zero]; rfl)
          case hq397 => exact fun _ _ _ h => h
          case hw397 => exact Or.inr ⟨by rfl, rfl⟩
          (try simp only [Act.put, List.setIfInBounds_toArray, List.set_cons_zero, List.set_cons_succ])
          refine wpAnyH_take (i := 49) (oi := ?oo398) (v := undef) ?hi398 (by kernel_rfl) (by kernel_rfl) (by kernel_rfl) ?hq398 ?hw398 (by assumption) ?rest398
          case hi398 => (simp only [List.getElem?_toArray, List.getElem?_cons_succ, List.getElem?_cons_zero]; rfl)
          case hq398 => exact fun _ _ _ h => h
          case hw398 => exact Or.inr ⟨by rfl, rfl⟩
          (try simp only [Act.put, List.setIfInBounds_toArray, List.set_cons_zero, List.set_cons_succ])
          refine wpAnyH_ready (rs := [50]) (by kernel_rfl) (by simp) ?_
          refine AllReadyH.cons (o := _) rfl (fun K hK => ?_) AllReadyH.nil
          go_simp
          refine hK.out _ _ (by (try dsimp only); first | exact hHeld | (first | (with_reducible exact hs0) | (simp only [World.cell?_drew]; first | (with_reducible exact hs0)))) (fun hHeld => ?_)
          clear hK K
          (try simp only [Act.put, List.setIfInBounds_toArray, List.set_cons_zero, List.set_cons_succ])
          refine wpAnyH_take (i := 51) (oi := ?oo399) (v := undef) ?hi399 (by kernel_rfl) (by kernel_rfl) (by kernel_rfl) ?hq399 ?hw399 (by assumption) ?rest399
          case hi399 => (simp only [List.getElem?_toArray, List.getElem?_cons_succ, List.getElem?_cons_zero]; rfl)
          case hq399 => exact fun _ _ _ h => h
          case hw399 => exact Or.inr ⟨by rfl, rfl⟩
          (try simp only [Act.put, List.setIfInBounds_toArray, List.set_cons_zero, List.set_cons_succ])
          refine wpAnyH_take (i := 52) (oi := ?oo400) (v := ?vv400) ?hi400 (by kernel_rfl) (by kernel_rfl) (by kernel_rfl) ?hq400 ?hw400 (by assumption) ?rest400
          case hi400 => (simp only [List.getElem?_toArray, List.getElem?_cons_succ, List.getElem?_cons_zero]; rfl)
          case hq400 => exact fun _ _ _ h => h
          case hw400 => (refine Or.inl ⟨by rfl, ?_⟩; intro w hSw; (try dsimp only at hSw); go_simp; try with_reducible rfl)
          (try simp only [Act.put, List.setIfInBounds_toArray, List.set_cons_zero, List.set_cons_succ])
          refine wpAnyH_done (by kernel_rfl) ?_ _
          go_wp2_with fail
          go_ret
          exact ⟨ret_b ((capB_not _ _).2 HNE.out).symm, by (repeat (first | with_reducible assumption | with_reducible exact Below.refl _ _ | with_reducible refine Below.drew ?_ | with_reducible refine belowDrewN ?_ _ | ((with_reducible refine Below.setCell ?_ ?_ _); rotate_left; focus (first | omega | (simp; done) | (simp; omega))) | ((with_reducible refine Below.alloc ?_ ?_ _); rotate_left; focus (first | omega | (simp; done) | (simp; omega)))))⟩
      · go_wp2_with fail
        go_ret
        have hj2 : j = ms.length := by omega
        subst hj2
        refine ⟨ret_b ((capB_iff _ _).2 ?_).symm, hb⟩
        have hpre' := hpre
        rw [HLN.out, List.take_length, ← HLN.out, HL.out, HLN'.out, List.take_length] at hpre'
        exact hpre'
  · have hl' : ((ms.length : Int) != (ms'.length : Int)) = true := by simp; omega
    have IH := Lib.hid ih; clear ih; have HIN := Lib.hid hin; clear hin; have HI := Lib.hid hi; clear hi; have HIN' := Lib.hid hin'; clear hin'; have HI' := Lib.hid hi'; clear hi'; have HLN := Lib.hid hln; clear hln; have HLN' := Lib.hid hln'; clear hln'; have HL := Lib.hid hl; clear hl
    go_enter Try.func10, Try.ntmps10
    go_wp2_with fail
    go_ret
    exact ⟨ret_b ((capB_not _ _).2 (by intro e; exact HL.out (by rw [HLN.out, HLN'.out, e]))).symm, by (repeat (first | with_reducible assumption | with_reducible exact Below.refl _ _ | with_reducible refine Below.drew ?_ | with_reducible refine belowDrewN ?_ _ | ((with_reducible refine Below.setCell ?_ ?_ _); rotate_left; focus (first | omega | (simp; done) | (simp; omega))) | ((with_reducible refine Below.alloc ?_ ?_ _); rotate_left; focus (first | omega | (simp; done) | (simp; omega)))))⟩
end Go.Proofs.Ytigmgfinjapchaa
