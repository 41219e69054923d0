/-
  Walks: EqualCaptures of both. No condition.
-/
import Derived.Test.YtigmgfinjapchaaCP3
import Derived.Test.YtigmgfinjapchaaY5
set_option linter.unusedVariables false
set_option linter.unusedSimpArgs false
set_option maxRecDepth 100000
namespace Go.Proofs.Ytigmgfinjapchaa
open Go.RowKit

open Classical in
noncomputable def capB (x y : List Cap) : Bool := decide (x = y)
theorem capB_iff (x y : List Cap) : capB x y = true ↔ x = y := by simp [capB]
theorem capB_not (x y : List Cap) : capB x y = false ↔ ¬ x = y := by simp [capB]

def sECs (ds : List Cap) : Prop := ∀ (a : Option Addr) (cap : Nat) (ms : List M) (ds' : List Cap) (a' : Option Addr) (cap' : Nat) (ms' : List M) (w : World), Cap.IsL 33 74 ds ms → (M.sl a cap 12 74 ms).In w → Cap.IsL 33 74 ds' ms' → (M.sl a' cap' 12 74 ms').In w →
    Calls Try.prog 8 #[.slice a ms.length cap, .slice a' ms'.length cap'] w (Ret (.bool (capB ds ds')) w)
set_option maxHeartbeats 4000000 in
theorem sEqualCaptures_calls : ∀ ds, sECs ds := by
  refine Cap.inductL fun ds ih => ?_
  intro a cap ms ds' a' cap' ms' w hi hin hi' hin'
  have hln := hi.length
  have hln' := hi'.length
  have hcapm := hin.len
  have hcapm' := hin'.len
  by_cases hl : ms.length = ms'.length
  · have hl' : ((ms.length : Int) != (ms'.length : Int)) = false := by simp [hl]
    have IH := Lib.hid ih; clear ih; have HIN := Lib.hid hin; clear hin; have HI := Lib.hid hi; clear hi; have HIN' := Lib.hid hin'; clear hin'; have HI' := Lib.hid hi'; clear hi'; have HLN := Lib.hid hln; clear hln; have HLN' := Lib.hid hln'; clear hln'; have HL := Lib.hid hl; clear hl
    go_enter Try.func8, Try.ntmps8
    go_wp2_with fail
    go_loopw [13] (fun i wr => ∃ j : Nat, j ≤ ms.length ∧ i = .int .i64 j ∧ ds.take j = ds'.take j ∧ Below w.heap.size w wr ∧ w.heap.size ≤ wr.heap.size) (fun i _ => ms.length - (intOf i).toNat)
    case atStart => exact ⟨0, Nat.zero_le _, rfl, by simp, by (repeat (first | with_reducible assumption | with_reducible exact Below.refl _ _ | with_reducible refine Below.drew ?_ | with_reducible refine belowDrewN ?_ _ | ((with_reducible refine Below.setCell ?_ ?_ _); rotate_left; focus (first | omega | (simp; done) | (simp; omega))) | ((with_reducible refine Below.alloc ?_ ?_ _); rotate_left; focus (first | omega | (simp; done) | (simp; omega))))), by omega⟩
    case round =>
      obtain ⟨j, hj, rfl, hpre, hb, hsz⟩ := hrel
      by_cases hlt : j < ms.length
      · have hlt' : j < ms'.length := by have := HL.out; omega
        obtain ⟨b, off, k1, n1, s1, x1, ds1, xa1, xc1, a1, cap1, ms1, D, k2, n2, s2, x2, ds2, xa2, xc2, a2, cap2, ms2, es, a3, cap3, ms3, rfl, hd, hi1, hi2, hi3, hin3, ⟨c0, c1, c2, c3, c4⟩, c5, ⟨c6, c7, c8, c9, c10⟩, c11⟩ := Cap.elem (HIN.out.below hb) HI.out j hlt
        obtain ⟨b', off', k1', n1', s1', x1', ds1', xa1', xc1', a1', cap1', ms1', D', k2', n2', s2', x2', ds2', xa2', xc2', a2', cap2', ms2', es', a3', cap3', ms3', rfl, hd', hi1', hi2', hi3', hin3', ⟨c0', c1', c2', c3', c4'⟩, c5', ⟨c6', c7', c8', c9', c10'⟩, c11'⟩ := Cap.elem (HIN'.out.below hb) HI'.out j hlt'
        have hbl := World.block_lt_of_cell? wr _ c0
        have hbl' := World.block_lt_of_cell? wr _ c0'
        have hs0 : (wr.cell? ⟨b, off + j * 12, none⟩ = some (.int .i64 k1) ∧ wr.cell? ⟨b, off + j * 12 + 1, none⟩ = some (.int .i64 n1) ∧ wr.cell? ⟨b, off + j * 12 + 2, none⟩ = some (.string s1) ∧ wr.cell? ⟨b, off + j * 12 + 3, none⟩ = some (.slice xa1 x1.length xc1) ∧ wr.cell? ⟨b, off + j * 12 + 4, none⟩ = some (.slice a1 ms1.length cap1) ∧ wr.cell? ⟨b, off + j * 12 + 5, none⟩ = some (.int .i64 D) ∧ wr.cell? ⟨b, off + j * 12 + 6, none⟩ = some (.int .i64 k2) ∧ wr.cell? ⟨b, off + j * 12 + 7, none⟩ = some (.int .i64 n2) ∧ wr.cell? ⟨b, off + j * 12 + 8, none⟩ = some (.string s2) ∧ wr.cell? ⟨b, off + j * 12 + 9, none⟩ = some (.slice xa2 x2.length xc2) ∧ wr.cell? ⟨b, off + j * 12 + 10, none⟩ = some (.slice a2 ms2.length cap2) ∧ wr.cell? ⟨b, off + j * 12 + 11, none⟩ = some (.slice a3 ms3.length cap3) ∧ wr.cell? ⟨b', off' + j * 12, none⟩ = some (.int .i64 k1') ∧ wr.cell? ⟨b', off' + j * 12 + 1, none⟩ = some (.int .i64 n1') ∧ wr.cell? ⟨b', off' + j * 12 + 2, none⟩ = some (.string s1') ∧ wr.cell? ⟨b', off' + j * 12 + 3, none⟩ = some (.slice xa1' x1'.length xc1') ∧ wr.cell? ⟨b', off' + j * 12 + 4, none⟩ = some (.slice a1' ms1'.length cap1') ∧ wr.cell? ⟨b', off' + j * 12 + 5, none⟩ = some (.int .i64 D') ∧ wr.cell? ⟨b', off' + j * 12 + 6, none⟩ = some (.int .i64 k2') ∧ wr.cell? ⟨b', off' + j * 12 + 7, none⟩ = some (.int .i64 n2') ∧ wr.cell? ⟨b', off' + j * 12 + 8, none⟩ = some (.string s2') ∧ wr.cell? ⟨b', off' + j * 12 + 9, none⟩ = some (.slice xa2' x2'.length xc2') ∧ wr.cell? ⟨b', off' + j * 12 + 10, none⟩ = some (.slice a2' ms2'.length cap2') ∧ wr.cell? ⟨b', off' + j * 12 + 11, none⟩ = some (.slice a3' ms3'.length cap3')) := ⟨c0, c1, c2, c3, c4, c5, c6, c7, c8, c9, c10, c11, c0', c1', c2', c3', c4', c5', c6', c7', c8', c9', c10', c11'⟩
        clear c0 c1 c2 c3 c4 c5 c6 c7 c8 c9 c10 c11 c0' c1' c2' c3' c4' c5' c6' c7' c8' c9' c10' c11'
        by_cases heN : Syn.mk k1 n1 s1 x1 ds1 = Syn.mk k1' n1' s1' x1' ds1'
        · by_cases heD : D = D'
          · by_cases heF : Syn.mk k2 n2 s2 x2 ds2 = Syn.mk k2' n2' s2' x2' ds2'
            · by_cases heE : es = es'
              · have hN : ∀ W, (SynOwn 33 xa1 xc1 x1 a1 cap1 ms1).In W → (SynOwn 33 xa1' xc1' x1' a1' cap1' ms1').In W → Calls Try.prog 26 #[.agg #[.int .i64 k1, .int .i64 n1, .string s1, .slice xa1 x1.length xc1, .slice a1 ms1.length cap1], .agg #[.int .i64 k1', .int .i64 n1', .string s1', .slice xa1' x1'.length xc1', .slice a1' ms1'.length cap1']] W (Ret (.bool true) W) := fun W h1 h2 => by
                  have h := sEqualSyntax_calls ds1 k1 n1 s1 x1 xa1 xc1 a1 cap1 ms1 k1' n1' s1' x1' xa1' xc1' a1' cap1' ds1' ms1' W hi1.is h1 hi1'.is h2
                  rw [(eqSB_iff _ _).2 heN] at h
                  exact h
                have hD : (D != D') = false := by simp [heD]
                have hF : ∀ W, (SynOwn 33 xa2 xc2 x2 a2 cap2 ms2).In W → (SynOwn 33 xa2' xc2' x2' a2' cap2' ms2').In W → Calls Try.prog 26 #[.agg #[.int .i64 k2, .int .i64 n2, .string s2, .slice xa2 x2.length xc2, .slice a2 ms2.length cap2], .agg #[.int .i64 k2', .int .i64 n2', .string s2', .slice xa2' x2'.length xc2', .slice a2' ms2'.length cap2']] W (Ret (.bool true) W) := fun W h1 h2 => by
                  have h := sEqualSyntax_calls ds2 k2 n2 s2 x2 xa2 xc2 a2 cap2 ms2 k2' n2' s2' x2' xa2' xc2' a2' cap2' ds2' ms2' W hi2.is h1 hi2'.is h2
                  rw [(eqSB_iff _ _).2 heF] at h
                  exact h
                have hE : ∀ W, (M.sl a3 cap3 12 74 ms3).In W → (M.sl a3' cap3' 12 74 ms3').In W → Calls Try.prog 8 #[.slice a3 ms3.length cap3, .slice a3' ms3'.length cap3'] W (Ret (.bool true) W) := fun W h1 h2 => by
                  have h := IH.out _ D _ es (List.mem_of_getElem? hd) a3 cap3 ms3 es' a3' cap3' ms3' W hi3 h1 hi3' h2
                  rw [(capB_iff _ _).2 heE] at h
                  exact h
                have hpre2 := take_eq_succ hpre hd hd' (by rw [heN, heD, heF, heE])
                have HI1 := Lib.hid hi1; clear hi1; have HI2 := Lib.hid hi2; clear hi2; have HI3 := Lib.hid hi3; clear hi3; have HIN3 := Lib.hid hin3; clear hin3; have HI1' := Lib.hid hi1'; clear hi1'; have HI2' := Lib.hid hi2'; clear hi2'; have HI3' := Lib.hid hi3'; clear hi3'; have HIN3' := Lib.hid hin3'; clear hin3'; have HD := Lib.hid hd; clear hd; have HD' := Lib.hid hd'; clear hd'; have HPRE := Lib.hid hpre; clear hpre; have HEN := Lib.hid heN; clear heN; have HED := Lib.hid heD; clear heD; have HEF := Lib.hid heF; clear heF; have HEE := Lib.hid heE; clear heE; have HN := Lib.hid hN; clear hN; have HF := Lib.hid hF; clear hF; have HE := Lib.hid hE; clear hE; have HPRE2 := Lib.hid hpre2; clear hpre2
                go_wp2_with fail
                go_region_held3 (fun w' => (w'.cell? ⟨b, off + j * 12, none⟩ = some (.int .i64 k1) ∧ w'.cell? ⟨b, off + j * 12 + 1, none⟩ = some (.int .i64 n1) ∧ w'.cell? ⟨b, off + j * 12 + 2, none⟩ = some (.string s1) ∧ w'.cell? ⟨b, off + j * 12 + 3, none⟩ = some (.slice xa1 x1.length xc1) ∧ w'.cell? ⟨b, off + j * 12 + 4, none⟩ = some (.slice a1 ms1.length cap1) ∧ w'.cell? ⟨b, off + j * 12 + 5, none⟩ = some (.int .i64 D) ∧ w'.cell? ⟨b, off + j * 12 + 6, none⟩ = some (.int .i64 k2) ∧ w'.cell? ⟨b, off + j * 12 + 7, none⟩ = some (.int .i64 n2) ∧ w'.cell? ⟨b, off + j * 12 + 8, none⟩ = some (.string s2) ∧ w'.cell? ⟨b, off + j * 12 + 9, none⟩ = some (.slice xa2 x2.length xc2) ∧ w'.cell? ⟨b, off + j * 12 + 10, none⟩ = some (.slice a2 ms2.length cap2) ∧ w'.cell? ⟨b, off + j * 12 + 11, none⟩ = some (.slice a3 ms3.length cap3) ∧ w'.cell? ⟨b', off' + j * 12, none⟩ = some (.int .i64 k1') ∧ w'.cell? ⟨b', off' + j * 12 + 1, none⟩ = some (.int .i64 n1') ∧ w'.cell? ⟨b', off' + j * 12 + 2, none⟩ = some (.string s1') ∧ w'.cell? ⟨b', off' + j * 12 + 3, none⟩ = some (.slice xa1' x1'.length xc1') ∧ w'.cell? ⟨b', off' + j * 12 + 4, none⟩ = some (.slice a1' ms1'.length cap1') ∧ w'.cell? ⟨b', off' + j * 12 + 5, none⟩ = some (.int .i64 D') ∧ w'.cell? ⟨b', off' + j * 12 + 6, none⟩ = some (.int .i64 k2') ∧ w'.cell? ⟨b', off' + j * 12 + 7, none⟩ = some (.int .i64 n2') ∧ w'.cell? ⟨b', off' + j * 12 + 8, none⟩ = some (.string s2') ∧ w'.cell? ⟨b', off' + j * 12 + 9, none⟩ = some (.slice xa2' x2'.length xc2') ∧ w'.cell? ⟨b', off' + j * 12 + 10, none⟩ = some (.slice a2' ms2'.length cap2') ∧ w'.cell? ⟨b', off' + j * 12 + 11, none⟩ = some (.slice a3' ms3'.length cap3')))
                  (first | (with_reducible exact hs0) | (with_reducible exact hs1) | (with_reducible exact hs2) | (with_reducible exact hs3) | (simp only [World.cell?_drew]; first | (with_reducible exact hs0) | (with_reducible exact hs1) | (with_reducible exact hs2) | (with_reducible exact hs3)))
                  (first
                    | (go_at_call 26; (with_reducible refine (HN.out _ (HI1.out.at_ (by (repeat (first | with_reducible assumption | with_reducible exact Below.refl _ _ | with_reducible refine Below.drew ?_ | with_reducible refine belowDrewN ?_ _ | ((with_reducible refine Below.setCell ?_ ?_ _); rotate_left; focus (first | omega | (simp; done) | (simp; omega))) | ((with_reducible refine Below.alloc ?_ ?_ _); rotate_left; focus (first | omega | (simp; done) | (simp; omega))) | ((with_reducible refine Below.trans ?_ (Below.mono hb1 ?_)); rotate_left; focus (first | omega | (simp; done) | (simp; omega))) | ((with_reducible refine Below.trans ?_ (Below.mono hb2 ?_)); rotate_left; focus (first | omega | (simp; done) | (simp; omega))) | ((with_reducible refine Below.trans ?_ (Below.mono hb3 ?_)); rotate_left; focus (first | omega | (simp; done) | (simp; omega))))))) (HI1'.out.at_ (by (repeat (first | with_reducible assumption | with_reducible exact Below.refl _ _ | with_reducible refine Below.drew ?_ | with_reducible refine belowDrewN ?_ _ | ((with_reducible refine Below.setCell ?_ ?_ _); rotate_left; focus (first | omega | (simp; done) | (simp; omega))) | ((with_reducible refine Below.alloc ?_ ?_ _); rotate_left; focus (first | omega | (simp; done) | (simp; omega))) | ((with_reducible refine Below.trans ?_ (Below.mono hb1 ?_)); rotate_left; focus (first | omega | (simp; done) | (simp; omega))) | ((with_reducible refine Below.trans ?_ (Below.mono hb2 ?_)); rotate_left; focus (first | omega | (simp; done) | (simp; omega))) | ((with_reducible refine Below.trans ?_ (Below.mono hb3 ?_)); rotate_left; focus (first | omega | (simp; done) | (simp; omega)))))))).mono ?_); rintro e w1 ⟨rfl, hb1⟩; obtain ⟨hc1, hf1⟩ := bcell hb1; have hz1 := hb1.size; (try simp only [World.size_alloc, World.size_setCell, World.size_drew, sizeDrewN] at hz1 hc1 hf1); have hp1 : b < w1.heap.size := (by omega); have hp1' : b' < w1.heap.size := (by omega); have hs1 : (w1.cell? ⟨b, off + j * 12, none⟩ = some (.int .i64 k1) ∧ w1.cell? ⟨b, off + j * 12 + 1, none⟩ = some (.int .i64 n1) ∧ w1.cell? ⟨b, off + j * 12 + 2, none⟩ = some (.string s1) ∧ w1.cell? ⟨b, off + j * 12 + 3, none⟩ = some (.slice xa1 x1.length xc1) ∧ w1.cell? ⟨b, off + j * 12 + 4, none⟩ = some (.slice a1 ms1.length cap1) ∧ w1.cell? ⟨b, off + j * 12 + 5, none⟩ = some (.int .i64 D) ∧ w1.cell? ⟨b, off + j * 12 + 6, none⟩ = some (.int .i64 k2) ∧ w1.cell? ⟨b, off + j * 12 + 7, none⟩ = some (.int .i64 n2) ∧ w1.cell? ⟨b, off + j * 12 + 8, none⟩ = some (.string s2) ∧ w1.cell? ⟨b, off + j * 12 + 9, none⟩ = some (.slice xa2 x2.length xc2) ∧ w1.cell? ⟨b, off + j * 12 + 10, none⟩ = some (.slice a2 ms2.length cap2) ∧ w1.cell? ⟨b, off + j * 12 + 11, none⟩ = some (.slice a3 ms3.length cap3) ∧ w1.cell? ⟨b', off' + j * 12, none⟩ = some (.int .i64 k1') ∧ w1.cell? ⟨b', off' + j * 12 + 1, none⟩ = some (.int .i64 n1') ∧ w1.cell? ⟨b', off' + j * 12 + 2, none⟩ = some (.string s1') ∧ w1.cell? ⟨b', off' + j * 12 + 3, none⟩ = some (.slice xa1' x1'.length xc1') ∧ w1.cell? ⟨b', off' + j * 12 + 4, none⟩ = some (.slice a1' ms1'.length cap1') ∧ w1.cell? ⟨b', off' + j * 12 + 5, none⟩ = some (.int .i64 D') ∧ w1.cell? ⟨b', off' + j * 12 + 6, none⟩ = some (.int .i64 k2') ∧ w1.cell? ⟨b', off' + j * 12 + 7, none⟩ = some (.int .i64 n2') ∧ w1.cell? ⟨b', off' + j * 12 + 8, none⟩ = some (.string s2') ∧ w1.cell? ⟨b', off' + j * 12 + 9, none⟩ = some (.slice xa2' x2'.length xc2') ∧ w1.cell? ⟨b', off' + j * 12 + 10, none⟩ = some (.slice a2' ms2'.length cap2') ∧ w1.cell? ⟨b', off' + j * 12 + 11, none⟩ = some (.slice a3' ms3'.length cap3')) := (by first | (simp (disch := omega) only [hc1, hs3, and_self, go_sem, World.cell?_drew]; done) | (simp (disch := omega) only [hc1, hs2, and_self, go_sem, World.cell?_drew]; done) | (simp (disch := omega) only [hc1, hs0, and_self, go_sem, World.cell?_drew]; done)))
                    | (go_at_call 26; (with_reducible refine (HF.out _ (HI2.out.at_ (by (repeat (first | with_reducible assumption | with_reducible exact Below.refl _ _ | with_reducible refine Below.drew ?_ | with_reducible refine belowDrewN ?_ _ | ((with_reducible refine Below.setCell ?_ ?_ _); rotate_left; focus (first | omega | (simp; done) | (simp; omega))) | ((with_reducible refine Below.alloc ?_ ?_ _); rotate_left; focus (first | omega | (simp; done) | (simp; omega))) | ((with_reducible refine Below.trans ?_ (Below.mono hb1 ?_)); rotate_left; focus (first | omega | (simp; done) | (simp; omega))) | ((with_reducible refine Below.trans ?_ (Below.mono hb2 ?_)); rotate_left; focus (first | omega | (simp; done) | (simp; omega))) | ((with_reducible refine Below.trans ?_ (Below.mono hb3 ?_)); rotate_left; focus (first | omega | (simp; done) | (simp; omega))))))) (HI2'.out.at_ (by (repeat (first | with_reducible assumption | with_reducible exact Below.refl _ _ | with_reducible refine Below.drew ?_ | with_reducible refine belowDrewN ?_ _ | ((with_reducible refine Below.setCell ?_ ?_ _); rotate_left; focus (first | omega | (simp; done) | (simp; omega))) | ((with_reducible refine Below.alloc ?_ ?_ _); rotate_left; focus (first | omega | (simp; done) | (simp; omega))) | ((with_reducible refine Below.trans ?_ (Below.mono hb1 ?_)); rotate_left; focus (first | omega | (simp; done) | (simp; omega))) | ((with_reducible refine Below.trans ?_ (Below.mono hb2 ?_)); rotate_left; focus (first | omega | (simp; done) | (simp; omega))) | ((with_reducible refine Below.trans ?_ (Below.mono hb3 ?_)); rotate_left; focus (first | omega | (simp; done) | (simp; omega)))))))).mono ?_); rintro e w2 ⟨rfl, hb2⟩; obtain ⟨hc2, hf2⟩ := bcell hb2; have hz2 := hb2.size; (try simp only [World.size_alloc, World.size_setCell, World.size_drew, sizeDrewN] at hz2 hc2 hf2); have hp2 : b < w2.heap.size := (by omega); have hp2' : b' < w2.heap.size := (by omega); have hs2 : (w2.cell? ⟨b, off + j * 12, none⟩ = some (.int .i64 k1) ∧ w2.cell? ⟨b, off + j * 12 + 1, none⟩ = some (.int .i64 n1) ∧ w2.cell? ⟨b, off + j * 12 + 2, none⟩ = some (.string s1) ∧ w2.cell? ⟨b, off + j * 12 + 3, none⟩ = some (.slice xa1 x1.length xc1) ∧ w2.cell? ⟨b, off + j * 12 + 4, none⟩ = some (.slice a1 ms1.length cap1) ∧ w2.cell? ⟨b, off + j * 12 + 5, none⟩ = some (.int .i64 D) ∧ w2.cell? ⟨b, off + j * 12 + 6, none⟩ = some (.int .i64 k2) ∧ w2.cell? ⟨b, off + j * 12 + 7, none⟩ = some (.int .i64 n2) ∧ w2.cell? ⟨b, off + j * 12 + 8, none⟩ = some (.string s2) ∧ w2.cell? ⟨b, off + j * 12 + 9, none⟩ = some (.slice xa2 x2.length xc2) ∧ w2.cell? ⟨b, off + j * 12 + 10, none⟩ = some (.slice a2 ms2.length cap2) ∧ w2.cell? ⟨b, off + j * 12 + 11, none⟩ = some (.slice a3 ms3.length cap3) ∧ w2.cell? ⟨b', off' + j * 12, none⟩ = some (.int .i64 k1') ∧ w2.cell? ⟨b', off' + j * 12 + 1, none⟩ = some (.int .i64 n1') ∧ w2.cell? ⟨b', off' + j * 12 + 2, none⟩ = some (.string s1') ∧ w2.cell? ⟨b', off' + j * 12 + 3, none⟩ = some (.slice xa1' x1'.length xc1') ∧ w2.cell? ⟨b', off' + j * 12 + 4, none⟩ = some (.slice a1' ms1'.length cap1') ∧ w2.cell? ⟨b', off' + j * 12 + 5, none⟩ = some (.int .i64 D') ∧ w2.cell? ⟨b', off' + j * 12 + 6, none⟩ = some (.int .i64 k2') ∧ w2.cell? ⟨b', off' + j * 12 + 7, none⟩ = some (.int .i64 n2') ∧ w2.cell? ⟨b', off' + j * 12 + 8, none⟩ = some (.string s2') ∧ w2.cell? ⟨b', off' + j * 12 + 9, none⟩ = some (.slice xa2' x2'.length xc2') ∧ w2.cell? ⟨b', off' + j * 12 + 10, none⟩ = some (.slice a2' ms2'.length cap2') ∧ w2.cell? ⟨b', off' + j * 12 + 11, none⟩ = some (.slice a3' ms3'.length cap3')) := (by first | (simp (disch := omega) only [hc2, hs3, and_self, go_sem, World.cell?_drew]; done) | (simp (disch := omega) only [hc2, hs1, and_self, go_sem, World.cell?_drew]; done) | (simp (disch := omega) only [hc2, hs0, and_self, go_sem, World.cell?_drew]; done)))
                    | (go_at_call 8; (with_reducible refine (HE.out _ (HIN3.out.below (by (repeat (first | with_reducible assumption | with_reducible exact Below.refl _ _ | with_reducible refine Below.drew ?_ | with_reducible refine belowDrewN ?_ _ | ((with_reducible refine Below.setCell ?_ ?_ _); rotate_left; focus (first | omega | (simp; done) | (simp; omega))) | ((with_reducible refine Below.alloc ?_ ?_ _); rotate_left; focus (first | omega | (simp; done) | (simp; omega))) | ((with_reducible refine Below.trans ?_ (Below.mono hb1 ?_)); rotate_left; focus (first | omega | (simp; done) | (simp; omega))) | ((with_reducible refine Below.trans ?_ (Below.mono hb2 ?_)); rotate_left; focus (first | omega | (simp; done) | (simp; omega))) | ((with_reducible refine Below.trans ?_ (Below.mono hb3 ?_)); rotate_left; focus (first | omega | (simp; done) | (simp; omega))))))) (HIN3'.out.below (by (repeat (first | with_reducible assumption | with_reducible exact Below.refl _ _ | with_reducible refine Below.drew ?_ | with_reducible refine belowDrewN ?_ _ | ((with_reducible refine Below.setCell ?_ ?_ _); rotate_left; focus (first | omega | (simp; done) | (simp; omega))) | ((with_reducible refine Below.alloc ?_ ?_ _); rotate_left; focus (first | omega | (simp; done) | (simp; omega))) | ((with_reducible refine Below.trans ?_ (Below.mono hb1 ?_)); rotate_left; focus (first | omega | (simp; done) | (simp; omega))) | ((with_reducible refine Below.trans ?_ (Below.mono hb2 ?_)); rotate_left; focus (first | omega | (simp; done) | (simp; omega))) | ((with_reducible refine Below.trans ?_ (Below.mono hb3 ?_)); rotate_left; focus (first | omega | (simp; done) | (simp; omega)))))))).mono ?_); rintro e w3 ⟨rfl, hb3⟩; obtain ⟨hc3, hf3⟩ := bcell hb3; have hz3 := hb3.size; (try simp only [World.size_alloc, World.size_setCell, World.size_drew, sizeDrewN] at hz3 hc3 hf3); have hp3 : b < w3.heap.size := (by omega); have hp3' : b' < w3.heap.size := (by omega); have hs3 : (w3.cell? ⟨b, off + j * 12, none⟩ = some (.int .i64 k1) ∧ w3.cell? ⟨b, off + j * 12 + 1, none⟩ = some (.int .i64 n1) ∧ w3.cell? ⟨b, off + j * 12 + 2, none⟩ = some (.string s1) ∧ w3.cell? ⟨b, off + j * 12 + 3, none⟩ = some (.slice xa1 x1.length xc1) ∧ w3.cell? ⟨b, off + j * 12 + 4, none⟩ = some (.slice a1 ms1.length cap1) ∧ w3.cell? ⟨b, off + j * 12 + 5, none⟩ = some (.int .i64 D) ∧ w3.cell? ⟨b, off + j * 12 + 6, none⟩ = some (.int .i64 k2) ∧ w3.cell? ⟨b, off + j * 12 + 7, none⟩ = some (.int .i64 n2) ∧ w3.cell? ⟨b, off + j * 12 + 8, none⟩ = some (.string s2) ∧ w3.cell? ⟨b, off + j * 12 + 9, none⟩ = some (.slice xa2 x2.length xc2) ∧ w3.cell? ⟨b, off + j * 12 + 10, none⟩ = some (.slice a2 ms2.length cap2) ∧ w3.cell? ⟨b, off + j * 12 + 11, none⟩ = some (.slice a3 ms3.length cap3) ∧ w3.cell? ⟨b', off' + j * 12, none⟩ = some (.int .i64 k1') ∧ w3.cell? ⟨b', off' + j * 12 + 1, none⟩ = some (.int .i64 n1') ∧ w3.cell? ⟨b', off' + j * 12 + 2, none⟩ = some (.string s1') ∧ w3.cell? ⟨b', off' + j * 12 + 3, none⟩ = some (.slice xa1' x1'.length xc1') ∧ w3.cell? ⟨b', off' + j * 12 + 4, none⟩ = some (.slice a1' ms1'.length cap1') ∧ w3.cell? ⟨b', off' + j * 12 + 5, none⟩ = some (.int .i64 D') ∧ w3.cell? ⟨b', off' + j * 12 + 6, none⟩ = some (.int .i64 k2') ∧ w3.cell? ⟨b', off' + j * 12 + 7, none⟩ = some (.int .i64 n2') ∧ w3.cell? ⟨b', off' + j * 12 + 8, none⟩ = some (.string s2') ∧ w3.cell? ⟨b', off' + j * 12 + 9, none⟩ = some (.slice xa2' x2'.length xc2') ∧ w3.cell? ⟨b', off' + j * 12 + 10, none⟩ = some (.slice a2' ms2'.length cap2') ∧ w3.cell? ⟨b', off' + j * 12 + 11, none⟩ = some (.slice a3' ms3'.length cap3')) := (by first | (simp (disch := omega) only [hc3, hs2, and_self, go_sem, World.cell?_drew]; done) | (simp (disch := omega) only [hc3, hs1, and_self, go_sem, World.cell?_drew]; done) | (simp (disch := omega) only [hc3, hs0, and_self, go_sem, World.cell?_drew]; done))))
                all_goals
                  go_wp2_with fail
                  go_roundw
                  case rel => exact ⟨j + 1, by omega, by go_num, HPRE2.out, by (repeat (first | with_reducible assumption | with_reducible exact Below.refl _ _ | with_reducible refine Below.drew ?_ | with_reducible refine belowDrewN ?_ _ | ((with_reducible refine Below.setCell ?_ ?_ _); rotate_left; focus (first | omega | (simp; done) | (simp; omega))) | ((with_reducible refine Below.alloc ?_ ?_ _); rotate_left; focus (first | omega | (simp; done) | (simp; omega))) | ((with_reducible refine Below.trans ?_ (Below.mono hb1 ?_)); rotate_left; focus (first | omega | (simp; done) | (simp; omega))) | ((with_reducible refine Below.trans ?_ (Below.mono hb2 ?_)); rotate_left; focus (first | omega | (simp; done) | (simp; omega))) | ((with_reducible refine Below.trans ?_ (Below.mono hb3 ?_)); rotate_left; focus (first | omega | (simp; done) | (simp; omega))))), by (try simp only [World.size_drew, sizeDrewN]); omega⟩
                  case measure => simp [intOf]; omega
              · have hN : ∀ W, (SynOwn 33 xa1 xc1 x1 a1 cap1 ms1).In W → (SynOwn 33 xa1' xc1' x1' a1' cap1' ms1').In W → Calls Try.prog 26 #[.agg #[.int .i64 k1, .int .i64 n1, .string s1, .slice xa1 x1.length xc1, .slice a1 ms1.length cap1], .agg #[.int .i64 k1', .int .i64 n1', .string s1', .slice xa1' x1'.length xc1', .slice a1' ms1'.length cap1']] W (Ret (.bool true) W) := fun W h1 h2 => by
                  have h := sEqualSyntax_calls ds1 k1 n1 s1 x1 xa1 xc1 a1 cap1 ms1 k1' n1' s1' x1' xa1' xc1' a1' cap1' ds1' ms1' W hi1.is h1 hi1'.is h2
                  rw [(eqSB_iff _ _).2 heN] at h
                  exact h
                have hD : (D != D') = false := by simp [heD]
                have hF : ∀ W, (SynOwn 33 xa2 xc2 x2 a2 cap2 ms2).In W → (SynOwn 33 xa2' xc2' x2' a2' cap2' ms2').In W → Calls Try.prog 26 #[.agg #[.int .i64 k2, .int .i64 n2, .string s2, .slice xa2 x2.length xc2, .slice a2 ms2.length cap2], .agg #[.int .i64 k2', .int .i64 n2', .string s2', .slice xa2' x2'.length xc2', .slice a2' ms2'.length cap2']] W (Ret (.bool true) W) := fun W h1 h2 => by
                  have h := sEqualSyntax_calls ds2 k2 n2 s2 x2 xa2 xc2 a2 cap2 ms2 k2' n2' s2' x2' xa2' xc2' a2' cap2' ds2' ms2' W hi2.is h1 hi2'.is h2
                  rw [(eqSB_iff _ _).2 heF] at h
                  exact h
                have hE : ∀ W, (M.sl a3 cap3 12 74 ms3).In W → (M.sl a3' cap3' 12 74 ms3').In W → Calls Try.prog 8 #[.slice a3 ms3.length cap3, .slice a3' ms3'.length cap3'] W (Ret (.bool false) W) := fun W h1 h2 => by
                  have h := IH.out _ D _ es (List.mem_of_getElem? hd) a3 cap3 ms3 es' a3' cap3' ms3' W hi3 h1 hi3' h2
                  rw [(capB_not _ _).2 heE] at h
                  exact h
                have hne := ne_of_get hd hd' (fun e => heE (by injection e))
                have HI1 := Lib.hid hi1; clear hi1; have HI2 := Lib.hid hi2; clear hi2; have HI3 := Lib.hid hi3; clear hi3; have HIN3 := Lib.hid hin3; clear hin3; have HI1' := Lib.hid hi1'; clear hi1'; have HI2' := Lib.hid hi2'; clear hi2'; have HI3' := Lib.hid hi3'; clear hi3'; have HIN3' := Lib.hid hin3'; clear hin3'; have HD := Lib.hid hd; clear hd; have HD' := Lib.hid hd'; clear hd'; have HPRE := Lib.hid hpre; clear hpre; have HEN := Lib.hid heN; clear heN; have HED := Lib.hid heD; clear heD; have HEF := Lib.hid heF; clear heF; have HEE := Lib.hid heE; clear heE; have HN := Lib.hid hN; clear hN; have HF := Lib.hid hF; clear hF; have HE := Lib.hid hE; clear hE; have HNE := Lib.hid hne; clear hne
                go_wp2_with fail
                refine wp_region_held_drew (S := fun w' => (w'.cell? ⟨b, off + j * 12, none⟩ = some (.int .i64 k1) ∧ w'.cell? ⟨b, off + j * 12 + 1, none⟩ = some (.int .i64 n1) ∧ w'.cell? ⟨b, off + j * 12 + 2, none⟩ = some (.string s1) ∧ w'.cell? ⟨b, off + j * 12 + 3, none⟩ = some (.slice xa1 x1.length xc1) ∧ w'.cell? ⟨b, off + j * 12 + 4, none⟩ = some (.slice a1 ms1.length cap1) ∧ w'.cell? ⟨b, off + j * 12 + 5, none⟩ = some (.int .i64 D) ∧ w'.cell? ⟨b, off + j * 12 + 6, none⟩ = some (.int .i64 k2) ∧ w'.cell? ⟨b, off + j * 12 + 7, none⟩ = some (.int .i64 n2) ∧ w'.cell? ⟨b, off + j * 12 + 8, none⟩ = some (.string s2) ∧ w'.cell? ⟨b, off + j * 12 + 9, none⟩ = some (.slice xa2 x2.length xc2) ∧ w'.cell? ⟨b, off + j * 12 + 10, none⟩ = some (.slice a2 ms2.length cap2) ∧ w'.cell? ⟨b, off + j * 12 + 11, none⟩ = some (.slice a3 ms3.length cap3) ∧ w'.cell? ⟨b', off' + j * 12, none⟩ = some (.int .i64 k1') ∧ w'.cell? ⟨b', off' + j * 12 + 1, none⟩ = some (.int .i64 n1') ∧ w'.cell? ⟨b', off' + j * 12 + 2, none⟩ = some (.string s1') ∧ w'.cell? ⟨b', off' + j * 12 + 3, none⟩ = some (.slice xa1' x1'.length xc1') ∧ w'.cell? ⟨b', off' + j * 12 + 4, none⟩ = some (.slice a1' ms1'.length cap1') ∧ w'.cell? ⟨b', off' + j * 12 + 5, none⟩ = some (.int .i64 D') ∧ w'.cell? ⟨b', off' + j * 12 + 6, none⟩ = some (.int .i64 k2') ∧ w'.cell? ⟨b', off' + j * 12 + 7, none⟩ = some (.int .i64 n2') ∧ w'.cell? ⟨b', off' + j * 12 + 8, none⟩ = some (.string s2') ∧ w'.cell? ⟨b', off' + j * 12 + 9, none⟩ = some (.slice xa2' x2'.length xc2') ∧ w'.cell? ⟨b', off' + j * 12 + 10, none⟩ = some (.slice a2' ms2'.length cap2') ∧ w'.cell? ⟨b', off' + j * 12 + 11, none⟩ = some (.slice a3' ms3'.length cap3'))) (by kernel_rfl) ?_ (fun hHeld => ?_)
                · (first | (with_reducible exact hs0) | (with_reducible exact hs1) | (with_reducible exact hs2) | (with_reducible exact hs3) | (simp only [World.cell?_drew]; first | (with_reducible exact hs0) | (with_reducible exact hs1) | (with_reducible exact hs2) | (with_reducible exact hs3)))
                refine wpAnyH_take (i := 0) (oi := ?oo1) (v := ?vv1) ?hi1 (by kernel_rfl) (by kernel_rfl) (by kernel_rfl) ?hq1 ?hw1 (by assumption) ?rest1
                case hi1 => (simp only [List.getElem?_toArray, List.getElem?_cons_succ, List.getElem?_cons_zero]; rfl)
                case hq1 => exact fun _ _ _ h => h
                case hw1 => (refine Or.inl ⟨by rfl, ?_⟩; intro w hSw; (try dsimp only at hSw); go_simp; try with_reducible rfl)
                (try simp only [Act.put, List.setIfInBounds_toArray, List.set_cons_zero, List.set_cons_succ])
                refine wpAnyH_take (i := 1) (oi := ?oo2) (v := ?vv2) ?hi2 (by kernel_rfl) (by kernel_rfl) (by kernel_rfl) ?hq2 ?hw2 (by assumption) ?rest2
                case hi2 => (simp only [List.getElem?_toArray, List.getElem?_cons_succ, List.getElem?_cons_zero]; rfl)
                case hq2 => exact fun _ _ _ h => h
                case hw2 => (refine Or.inl ⟨by rfl, ?_⟩; intro w hSw; (try dsimp only at hSw); go_simp; try with_reducible rfl)
                (try simp only [Act.put, List.setIfInBounds_toArray, List.set_cons_zero, List.set_cons_succ])
                refine wpAnyH_take (i := 2) (oi := ?oo3) (v := ?vv3) ?hi3 (by kernel_rfl) (by kernel_rfl) (by kernel_rfl) ?hq3 ?hw3 (by assumption) ?rest3
                case hi3 => (simp only [List.getElem?_toArray, List.getElem?_cons_succ, List.getElem?_cons_zero]; rfl)
                case hq3 => exact fun _ _ _ h => h
                case hw3 => (refine Or.inl ⟨by rfl, ?_⟩; intro w hSw; (try dsimp only at hSw); go_simp; try with_reducible rfl)
                (try simp only [Act.put, List.setIfInBounds_toArray, List.set_cons_zero, List.set_cons_succ])
                refine wpAnyH_take (i := 3) (oi := ?oo4) (v := ?vv4) ?hi4 (by kernel_rfl) (by kernel_rfl) (by kernel_rfl) ?hq4 ?hw4 (by assumption) ?rest4
                case hi4 => (simp only [List.getElem?_toArray, List.getElem?_cons_succ, List.getElem?_cons_zero]; rfl)
                case hq4 => exact fun _ _ _ h => h
                case hw4 => (refine Or.inl ⟨by rfl, ?_⟩; intro w hSw; (try dsimp only at hSw); go_simp; try with_reducible rfl)
                (try simp only [Act.put, List.setIfInBounds_toArray, List.set_cons_zero, List.set_cons_succ])
                refine wpAnyH_take (i := 4) (oi := ?oo5) (v := ?vv5) ?hi5 (by kernel_rfl) (by kernel_rfl) (by kernel_rfl) ?hq5 ?hw5 (by assumption) ?rest5
                case hi5 => (simp only [List.getElem?_toArray, List.getElem?_cons_succ, List.getElem?_cons_zero]; rfl)
                case hq5 => exact fun _ _ _ h => h
                case hw5 => (refine Or.inl ⟨by rfl, ?_⟩; intro w hSw; (try dsimp only at hSw); go_simp; try with_reducible rfl)
                (try simp only [Act.put, List.setIfInBounds_toArray, List.set_cons_zero, List.set_cons_succ])
                refine wpAnyH_take (i := 5) (oi := ?oo6) (v := ?vv6) ?hi6 (by kernel_rfl) (by kernel_rfl) (by kernel_rfl) ?hq6 ?hw6 (by assumption) ?rest6
                case hi6 => (simp only [List.getElem?_toArray, List.getElem?_cons_succ, List.getElem?_cons_zero]; rfl)
                case hq6 => exact fun _ _ _ h => h
                case hw6 => (refine Or.inl ⟨by rfl, ?_⟩; intro w hSw; (try dsimp only at hSw); go_simp; try with_reducible rfl)
                (try simp only [Act.put, List.setIfInBounds_toArray, List.set_cons_zero, List.set_cons_succ])
                refine wpAnyH_take (i := 6) (oi := ?oo7) (v := ?vv7) ?hi7 (by kernel_rfl) (by kernel_rfl) (by kernel_rfl) ?hq7 ?hw7 (by assumption) ?rest7
                case hi7 => (simp only [List.getElem?_toArray, List.getElem?_cons_succ, List.getElem?_cons_zero]; rfl)
                case hq7 => exact fun _ _ _ h => h
                case hw7 => (refine Or.inl ⟨by rfl, ?_⟩; intro w hSw; (try dsimp only at hSw); go_simp; try with_reducible rfl)
                (try simp only [Act.put, List.setIfInBounds_toArray, List.set_cons_zero, List.set_cons_succ])
                refine wpAnyH_take (i := 7) (oi := ?oo8) (v := ?vv8) ?hi8 (by kernel_rfl) (by kernel_rfl) (by kernel_rfl) ?hq8 ?hw8 (by assumption) ?rest8
                case hi8 => (simp only [List.getElem?_toArray, List.getElem?_cons_succ, List.getElem?_cons_zero]; rfl)
                case hq8 => exact fun _ _ _ h => h
                case hw8 => (refine Or.inl ⟨by rfl, ?_⟩; intro w hSw; (try dsimp only at hSw); go_simp; try with_reducible rfl)
                (try simp only [Act.put, List.setIfInBounds_toArray, List.set_cons_zero, List.set_cons_succ])
                refine wpAnyH_take (i := 8) (oi := ?oo9) (v := ?vv9) ?hi9 (by kernel_rfl) (by kernel_rfl) (by kernel_rfl) ?hq9 ?hw9 (by assumption) ?rest9
                case hi9 => (simp only [List.getElem?_toArray, List.getElem?_cons_succ, List.getElem?_cons_zero]; rfl)
                case hq9 => exact fun _ _ _ h => h
                case hw9 => (refine Or.inl ⟨by rfl, ?_⟩; intro w hSw; (try dsimp only at hSw); go_simp; try with_reducible rfl)
                (try simp only [Act.put, List.setIfInBounds_toArray, List.set_cons_zero, List.set_cons_succ])
                refine wpAnyH_take (i := 9) (oi := ?oo10) (v := ?vv10) ?hi10 (by kernel_rfl) (by kernel_rfl) (by kernel_rfl) ?hq10 ?hw10 (by assumption) ?rest10
                case hi10 => (simp only [List.getElem?_toArray, List.getElem?_cons_succ, List.getElem?_cons_zero]; rfl)
                case hq10 => exact fun _ _ _ h => h
                case hw10 => (refine Or.inl ⟨by rfl, ?_⟩; intro w hSw; (try dsimp only at hSw); go_simp; try with_reducible rfl)
                (try simp only [Act.put, List.setIfInBounds_toArray, List.set_cons_zero, List.set_cons_succ])
                refine wpAnyH_ready (rs := [10]) (by kernel_rfl) (by simp) ?_
                refine AllReadyH.cons (o := _) rfl (fun K hK => ?_) AllReadyH.nil
                go_simp
                go_at_call 26; (with_reducible refine (HN.out _ (HI1.out.at_ (by (repeat (first | with_reducible assumption | with_reducible exact Below.refl _ _ | with_reducible refine Below.drew ?_ | with_reducible refine belowDrewN ?_ _ | ((with_reducible refine Below.setCell ?_ ?_ _); rotate_left; focus (first | omega | (simp; done) | (simp; omega))) | ((with_reducible refine Below.alloc ?_ ?_ _); rotate_left; focus (first | omega | (simp; done) | (simp; omega))) | ((with_reducible refine Below.trans ?_ (Below.mono hb1 ?_)); rotate_left; focus (first | omega | (simp; done) | (simp; omega))) | ((with_reducible refine Below.trans ?_ (Below.mono hb2 ?_)); rotate_left; focus (first | omega | (simp; done) | (simp; omega))) | ((with_reducible refine Below.trans ?_ (Below.mono hb3 ?_)); rotate_left; focus (first | omega | (simp; done) | (simp; omega))))))) (HI1'.out.at_ (by (repeat (first | with_reducible assumption | with_reducible exact Below.refl _ _ | with_reducible refine Below.drew ?_ | with_reducible refine belowDrewN ?_ _ | ((with_reducible refine Below.setCell ?_ ?_ _); rotate_left; focus (first | omega | (simp; done) | (simp; omega))) | ((with_reducible refine Below.alloc ?_ ?_ _); rotate_left; focus (first | omega | (simp; done) | (simp; omega))) | ((with_reducible refine Below.trans ?_ (Below.mono hb1 ?_)); rotate_left; focus (first | omega | (simp; done) | (simp; omega))) | ((with_reducible refine Below.trans ?_ (Below.mono hb2 ?_)); rotate_left; focus (first | omega | (simp; done) | (simp; omega))) | ((with_reducible refine Below.trans ?_ (Below.mono hb3 ?_)); rotate_left; focus (first | omega | (simp; done) | (simp; omega)))))))).mono ?_); rintro e w1 ⟨rfl, hb1⟩; obtain ⟨hc1, hf1⟩ := bcell hb1; have hz1 := hb1.size; (try simp only [World.size_alloc, World.size_setCell, World.size_drew, sizeDrewN] at hz1 hc1 hf1); have hp1 : b < w1.heap.size := (by omega); have hp1' : b' < w1.heap.size := (by omega); have hs1 : (w1.cell? ⟨b, off + j * 12, none⟩ = some (.int .i64 k1) ∧ w1.cell? ⟨b, off + j * 12 + 1, none⟩ = some (.int .i64 n1) ∧ w1.cell? ⟨b, off + j * 12 + 2, none⟩ = some (.string s1) ∧ w1.cell? ⟨b, off + j * 12 + 3, none⟩ = some (.slice xa1 x1.length xc1) ∧ w1.cell? ⟨b, off + j * 12 + 4, none⟩ = some (.slice a1 ms1.length cap1) ∧ w1.cell? ⟨b, off + j * 12 + 5, none⟩ = some (.int .i64 D) ∧ w1.cell? ⟨b, off + j * 12 + 6, none⟩ = some (.int .i64 k2) ∧ w1.cell? ⟨b, off + j * 12 + 7, none⟩ = some (.int .i64 n2) ∧ w1.cell? ⟨b, off + j * 12 + 8, none⟩ = some (.string s2) ∧ w1.cell? ⟨b, off + j * 12 + 9, none⟩ = some (.slice xa2 x2.length xc2) ∧ w1.cell? ⟨b, off + j * 12 + 10, none⟩ = some (.slice a2 ms2.length cap2) ∧ w1.cell? ⟨b, off + j * 12 + 11, none⟩ = some (.slice a3 ms3.length cap3) ∧ w1.cell? ⟨b', off' + j * 12, none⟩ = some (.int .i64 k1') ∧ w1.cell? ⟨b', off' + j * 12 + 1, none⟩ = some (.int .i64 n1') ∧ w1.cell? ⟨b', off' + j * 12 + 2, none⟩ = some (.string s1') ∧ w1.cell? ⟨b', off' + j * 12 + 3, none⟩ = some (.slice xa1' x1'.length xc1') ∧ w1.cell? ⟨b', off' + j * 12 + 4, none⟩ = some (.slice a1' ms1'.length cap1') ∧ w1.cell? ⟨b', off' + j * 12 + 5, none⟩ = some (.int .i64 D') ∧ w1.cell? ⟨b', off' + j * 12 + 6, none⟩ = some (.int .i64 k2') ∧ w1.cell? ⟨b', off' + j * 12 + 7, none⟩ = some (.int .i64 n2') ∧ w1.cell? ⟨b', off' + j * 12 + 8, none⟩ = some (.string s2') ∧ w1.cell? ⟨b', off' + j * 12 + 9, none⟩ = some (.slice xa2' x2'.length xc2') ∧ w1.cell? ⟨b', off' + j * 12 + 10, none⟩ = some (.slice a2' ms2'.length cap2') ∧ w1.cell? ⟨b', off' + j * 12 + 11, none⟩ = some (.slice a3' ms3'.length cap3')) := (by first | (simp (disch := omega) only [hc1, hs3, and_self, go_sem, World.cell?_drew]; done) | (simp (disch := omega) only [hc1, hs2, and_self, go_sem, World.cell?_drew]; done) | (simp (disch := omega) only [hc1, hs0, and_self, go_sem, World.cell?_drew]; done))
                refine hK.out _ _ (by (try dsimp only); first | exact hs1 | (first | (with_reducible exact hs0) | (with_reducible exact hs1) | (with_reducible exact hs2) | (with_reducible exact hs3) | (simp only [World.cell?_drew]; first | (with_reducible exact hs0) | (with_reducible exact hs1) | (with_reducible exact hs2) | (with_reducible exact hs3)))) (fun hHeld => ?_)
                clear hK K
                (try simp only [Act.put, List.setIfInBounds_toArray, List.set_cons_zero, List.set_cons_succ])
                refine wpAnyH_take (i := 11) (oi := ?oo11) (v := ?vv11) ?hi11 (by kernel_rfl) (by kernel_rfl) (by kernel_rfl) ?hq11 ?hw11 (by assumption) ?rest11
                case hi11 => (simp only [List.getElem?_toArray, List.getElem?_cons_succ, List.getElem?_cons_zero]; rfl)
                case hq11 => exact fun _ _ _ h => h
                case hw11 => (refine Or.inl ⟨by rfl, ?_⟩; intro w hSw; (try dsimp only at hSw); go_simp; try with_reducible rfl)
                (try simp only [Act.put, List.setIfInBounds_toArray, List.set_cons_zero, List.set_cons_succ])
                refine wpAnyH_take (i := 12) (oi := ?oo12) (v := ?vv12) ?hi12 (by kernel_rfl) (by kernel_rfl) (by kernel_rfl) ?hq12 ?hw12 (by assumption) ?rest12
                case hi12 => (simp only [List.getElem?_toArray, List.getElem?_cons_succ, List.getElem?_cons_zero]; rfl)
                case hq12 => exact fun _ _ _ h => h
                case hw12 => (refine Or.inl ⟨by rfl, ?_⟩; intro w hSw; (try dsimp only at hSw); go_simp; try with_reducible rfl)
                (try simp only [Act.put, List.setIfInBounds_toArray, List.set_cons_zero, List.set_cons_succ])
                refine wpAnyH_take (i := 13) (oi := ?oo13) (v := ?vv13) ?hi13 (by kernel_rfl) (by kernel_rfl) (by kernel_rfl) ?hq13 ?hw13 (by assumption) ?rest13
                case hi13 => (simp only [List.getElem?_toArray, List.getElem?_cons_succ, List.getElem?_cons_zero]; rfl)
                case hq13 => exact fun _ _ _ h => h
                case hw13 => (refine Or.inl ⟨by rfl, ?_⟩; intro w hSw; (try dsimp only at hSw); go_simp; try with_reducible rfl)
                (try simp only [Act.put, List.setIfInBounds_toArray, List.set_cons_zero, List.set_cons_succ])
                refine wpAnyH_take (i := 14) (oi := ?oo14) (v := ?vv14) ?hi14 (by kernel_rfl) (by kernel_rfl) (by kernel_rfl) ?hq14 ?hw14 (by assumption) ?rest14
                case hi14 => (simp only [List.getElem?_toArray, List.getElem?_cons_succ, List.getElem?_cons_zero]; rfl)
                case hq14 => exact fun _ _ _ h => h
                case hw14 => (refine Or.inl ⟨by rfl, ?_⟩; intro w hSw; (try dsimp only at hSw); go_simp; try with_reducible rfl)
                (try simp only [Act.put, List.setIfInBounds_toArray, List.set_cons_zero, List.set_cons_succ])
                refine wpAnyH_take (i := 15) (oi := ?oo15) (v := ?vv15) ?hi15 (by kernel_rfl) (by kernel_rfl) (by kernel_rfl) ?hq15 ?hw15 (by assumption) ?rest15
                case hi15 => (simp only [List.getElem?_toArray, List.getElem?_cons_succ, List.getElem?_cons_zero]; rfl)
                case hq15 => exact fun _ _ _ h => h
                case hw15 => (refine Or.inl ⟨by rfl, ?_⟩; intro w hSw; (try dsimp only at hSw); go_simp; try with_reducible rfl)
                (try simp only [Act.put, List.setIfInBounds_toArray, List.set_cons_zero, List.set_cons_succ])
                refine wpAnyH_take (i := 16) (oi := ?oo16) (v := ?vv16) ?hi16 (by kernel_rfl) (by kernel_rfl) (by kernel_rfl) ?hq16 ?hw16 (by assumption) ?rest16
                case hi16 => (simp only [List.getElem?_toArray, List.getElem?_cons_succ, List.getElem?_cons_zero]; rfl)
                case hq16 => exact fun _ _ _ h => h
                case hw16 => (refine Or.inl ⟨by rfl, ?_⟩; intro w hSw; (try dsimp only at hSw); go_simp; try with_reducible rfl)
                (try simp only [Act.put, List.setIfInBounds_toArray, List.set_cons_zero, List.set_cons_succ])
                refine wpAnyH_take (i := 17) (oi := ?oo17) (v := ?vv17) ?hi17 (by kernel_rfl) (by kernel_rfl) (by kernel_rfl) ?hq17 ?hw17 (by assumption) ?rest17
                case hi17 => (simp only [List.getElem?_toArray, List.getElem?_cons_succ, List.getElem?_cons_zero]; rfl)
                case hq17 => exact fun _ _ _ h => h
                case hw17 => (refine Or.inl ⟨by rfl, ?_⟩; intro w hSw; (try dsimp only at hSw); go_simp; try with_reducible rfl)
                (try simp only [Act.put, List.setIfInBounds_toArray, List.set_cons_zero, List.set_cons_succ])
                refine wpAnyH_take (i := 18) (oi := ?oo18) (v := ?vv18) ?hi18 (by kernel_rfl) (by kernel_rfl) (by kernel_rfl) ?hq18 ?hw18 (by assumption) ?rest18
                case hi18 => (simp only [List.getElem?_toArray, List.getElem?_cons_succ, List.getElem?_cons_zero]; rfl)
                case hq18 => exact fun _ _ _ h => h
                case hw18 => (refine Or.inl ⟨by rfl, ?_⟩; intro w hSw; (try dsimp only at hSw); go_simp; try with_reducible rfl)
                (try simp only [Act.put, List.setIfInBounds_toArray, List.set_cons_zero, List.set_cons_succ])
                refine wpAnyH_take (i := 19) (oi := ?oo19) (v := ?vv19) ?hi19 (by kernel_rfl) (by kernel_rfl) (by kernel_rfl) ?hq19 ?hw19 (by assumption) ?rest19
                case hi19 => (simp only [List.getElem?_toArray, List.getElem?_cons_succ, List.getElem?_cons_zero]; rfl)
                case hq19 => exact fun _ _ _ h => h
                case hw19 => (refine Or.inl ⟨by rfl, ?_⟩; intro w hSw; (try dsimp only at hSw); go_simp; try with_reducible rfl)
                (try simp only [Act.put, List.setIfInBounds_toArray, List.set_cons_zero, List.set_cons_succ])
                refine wpAnyH_take (i := 20) (oi := ?oo20) (v := ?vv20) ?hi20 (by kernel_rfl) (by kernel_rfl) (by kernel_rfl) ?hq20 ?hw20 (by assumption) ?rest20
                case hi20 => (simp only [List.getElem?_toArray, List.getElem?_cons_succ, List.getElem?_cons_zero]; rfl)
                case hq20 => exact fun _ _ _ h => h
                case hw20 => (refine Or.inl ⟨by rfl, ?_⟩; intro w hSw; (try dsimp only at hSw); go_simp; try with_reducible rfl)
                (try simp only [Act.put, List.setIfInBounds_toArray, List.set_cons_zero, List.set_cons_succ])
                refine wpAnyH_take (i := 21) (oi := ?oo21) (v := ?vv21) ?hi21 (by kernel_rfl) (by kernel_rfl) (by kernel_rfl) ?hq21 ?hw21 (by assumption) ?rest21
                case hi21 => (simp only [List.getElem?_toArray, List.getElem?_cons_succ, List.getElem?_cons_zero]; rfl)
                case hq21 => exact fun _ _ _ h => h
                case hw21 => (refine Or.inl ⟨by rfl, ?_⟩; intro w hSw; (try dsimp only at hSw); go_simp; try with_reducible rfl)
                (try simp only [Act.put, List.setIfInBounds_toArray, List.set_cons_zero, List.set_cons_succ])
                refine wpAnyH_take (i := 22) (oi := ?oo22) (v := ?vv22) ?hi22 (by kernel_rfl) (by kernel_rfl) (by kernel_rfl) ?hq22 ?hw22 (by assumption) ?rest22
                case hi22 => (simp only [List.getElem?_toArray, List.getElem?_cons_succ, List.getElem?_cons_zero]; rfl)
                case hq22 => exact fun _ _ _ h => h
                case hw22 => (refine Or.inl ⟨by rfl, ?_⟩; intro w hSw; (try dsimp only at hSw); go_simp; try with_reducible rfl)
                (try simp only [Act.put, List.setIfInBounds_toArray, List.set_cons_zero, List.set_cons_succ])
                refine wpAnyH_take (i := 23) (oi := ?oo23) (v := ?vv23) ?hi23 (by kernel_rfl) (by kernel_rfl) (by kernel_rfl) ?hq23 ?hw23 (by assumption) ?rest23
                case hi23 => (simp only [List.getElem?_toArray, List.getElem?_cons_succ, List.getElem?_cons_zero]; rfl)
                case hq23 => exact fun _ _ _ h => h
                case hw23 => (refine Or.inl ⟨by rfl, ?_⟩; intro w hSw; (try dsimp only at hSw); go_simp; try with_reducible rfl)
                (try simp only [Act.put, List.setIfInBounds_toArray, List.set_cons_zero, List.set_cons_succ])
                refine wpAnyH_take (i := 24) (oi := ?oo24) (v := ?vv24) ?hi24 (by kernel_rfl) (by kernel_rfl) (by kernel_rfl) ?hq24 ?hw24 (by assumption) ?rest24
                case hi24 => (simp only [List.getElem?_toArray, List.getElem?_cons_succ, List.getElem?_cons_zero]; rfl)
                case hq24 => exact fun _ _ _ h => h
                case hw24 => (refine Or.inl ⟨by rfl, ?_⟩; intro w hSw; (try dsimp only at hSw); go_simp; try with_reducible rfl)
                (try simp only [Act.put, List.setIfInBounds_toArray, List.set_cons_zero, List.set_cons_succ])
                refine wpAnyH_take (i := 25) (oi := ?oo25) (v := ?vv25) ?hi25 (by kernel_rfl) (by kernel_rfl) (by kernel_rfl) ?hq25 ?hw25 (by assumption) ?rest25
                case hi25 => (simp only [List.getElem?_toArray, List.getElem?_cons_succ, List.getElem?_cons_zero]; rfl)
                case hq25 => exact fun _ _ _ h => h
                case hw25 => (refine Or.inl ⟨by rfl, ?_⟩; intro w hSw; (try dsimp only at hSw); go_simp; try with_reducible rfl)
                (try simp only [Act.put, List.setIfInBounds_toArray, List.set_cons_zero, List.set_cons_succ])
                refine wpAnyH_take (i := 26) (oi := ?oo26) (v := ?vv26) ?hi26 (by kernel_rfl) (by kernel_rfl) (by kernel_rfl) ?hq26 ?hw26 (by assumption) ?rest26
                case hi26 => (simp only [List.getElem?_toArray, List.getElem?_cons_succ, List.getElem?_cons_zero]; rfl)
                case hq26 => exact fun _ _ _ h => h
                case hw26 => (refine Or.inl ⟨by rfl, ?_⟩; intro w hSw; (try dsimp only at hSw); go_simp; try with_reducible rfl)
                (try simp only [Act.put, List.setIfInBounds_toArray, List.set_cons_zero, List.set_cons_succ])
                refine wpAnyH_take (i := 27) (oi := ?oo27) (v := ?vv27) ?hi27 (by kernel_rfl) (by kernel_rfl) (by kernel_rfl) ?hq27 ?hw27 (by assumption) ?rest27
                case hi27 => (simp only [List.getElem?_toArray, List.getElem?_cons_succ, List.getElem?_cons_zero]; rfl)
                case hq27 => exact fun _ _ _ h => h
                case hw27 => (refine Or.inl ⟨by rfl, ?_⟩; intro w hSw; (try dsimp only at hSw); go_simp; try with_reducible rfl)
                (try simp only [Act.put, List.setIfInBounds_toArray, List.set_cons_zero, List.set_cons_succ])
                refine wpAnyH_take (i := 28) (oi := ?oo28) (v := ?vv28) ?hi28 (by kernel_rfl) (by kernel_rfl) (by kernel_rfl) ?hq28 ?hw28 (by assumption) ?rest28
                case hi28 => (simp only [List.getElem?_toArray, List.getElem?_cons_succ, List.getElem?_cons_zero]; rfl)
                case hq28 => exact fun _ _ _ h => h
                case hw28 => (refine Or.inl ⟨by rfl, ?_⟩; intro w hSw; (try dsimp only at hSw); go_simp; try with_reducible rfl)
                (try simp only [Act.put, List.setIfInBounds_toArray, List.set_cons_zero, List.set_cons_succ])
                refine wpAnyH_take (i := 29) (oi := ?oo29) (v := ?vv29) ?hi29 (by kernel_rfl) (by kernel_rfl) (by kernel_rfl) ?hq29 ?hw29 (by assumption) ?rest29
                case hi29 => (simp only [List.getElem?_toArray, List.getElem?_cons_succ, List.getElem?_cons_zero]; rfl)
                case hq29 => exact fun _ _ _ h => h
                case hw29 => (refine Or.inl ⟨by rfl, ?_⟩; intro w hSw; (try dsimp only at hSw); go_simp; try with_reducible rfl)
                (try simp only [Act.put, List.setIfInBounds_toArray, List.set_cons_zero, List.set_cons_succ])
                refine wpAnyH_take (i := 30) (oi := ?oo30) (v := ?vv30) ?hi30 (by kernel_rfl) (by kernel_rfl) (by kernel_rfl) ?hq30 ?hw30 (by assumption) ?rest30
                case hi30 => (simp only [List.getElem?_toArray, List.getElem?_cons_succ, List.getElem?_cons_zero]; rfl)
                case hq30 => exact fun _ _ _ h => h
                case hw30 => (refine Or.inl ⟨by rfl, ?_⟩; intro w hSw; (try dsimp only at hSw); go_simp; try with_reducible rfl)
                (try simp only [Act.put, List.setIfInBounds_toArray, List.set_cons_zero, List.set_cons_succ])
                refine wpAnyH_take (i := 31) (oi := ?oo31) (v := ?vv31) ?hi31 (by kernel_rfl) (by kernel_rfl) (by kernel_rfl) ?hq31 ?hw31 (by assumption) ?rest31
                case hi31 => (simp only [List.getElem?_toArray, List.getElem?_cons_succ, List.getElem?_cons_zero]; rfl)
                case hq31 => exact fun _ _ _ h => h
                case hw31 => (refine Or.inl ⟨by rfl, ?_⟩; intro w hSw; (try dsimp only at hSw); go_simp; try with_reducible rfl)
                (try simp only [Act.put, List.setIfInBounds_toArray, List.set_cons_zero, List.set_cons_succ])
                refine wpAnyH_take (i := 32) (oi := ?oo32) (v := ?vv32) ?hi32 (by kernel_rfl) (by kernel_rfl) (by kernel_rfl) ?hq32 ?hw32 (by assumption) ?rest32
                case hi32 => (simp only [List.getElem?_toArray, List.getElem?_cons_succ, List.getElem?_cons_zero]; rfl)
                case hq32 => exact fun _ _ _ h => h
                case hw32 => (refine Or.inl ⟨by rfl, ?_⟩; intro w hSw; (try dsimp only at hSw); go_simp; try with_reducible rfl)
                (try simp only [Act.put, List.setIfInBounds_toArray, List.set_cons_zero, List.set_cons_succ])
                refine wpAnyH_take (i := 33) (oi := ?oo33) (v := ?vv33) ?hi33 (by kernel_rfl) (by kernel_rfl) (by kernel_rfl) ?hq33 ?hw33 (by assumption) ?rest33
                case hi33 => (simp only [List.getElem?_toArray, List.getElem?_cons_succ, List.getElem?_cons_zero]; rfl)
                case hq33 => exact fun _ _ _ h => h
                case hw33 => (refine Or.inl ⟨by rfl, ?_⟩; intro w hSw; (try dsimp only at hSw); go_simp; try with_reducible rfl)
                (try simp only [Act.put, List.setIfInBounds_toArray, List.set_cons_zero, List.set_cons_succ])
                refine wpAnyH_take (i := 34) (oi := ?oo34) (v := ?vv34) ?hi34 (by kernel_rfl) (by kernel_rfl) (by kernel_rfl) ?hq34 ?hw34 (by assumption) ?rest34
                case hi34 => (simp only [List.getElem?_toArray, List.getElem?_cons_succ, List.getElem?_cons_zero]; rfl)
                case hq34 => exact fun _ _ _ h => h
                case hw34 => (refine Or.inl ⟨by rfl, ?_⟩; intro w hSw; (try dsimp only at hSw); go_simp; try with_reducible rfl)
                (try simp only [Act.put, List.setIfInBounds_toArray, List.set_cons_zero, List.set_cons_succ])
                refine wpAnyH_take (i := 35) (oi := ?oo35) (v := ?vv35) ?hi35 (by kernel_rfl) (by kernel_rfl) (by kernel_rfl) ?hq35 ?hw35 (by assumption) ?rest35
                case hi35 => (simp only [List.getElem?_toArray, List.getElem?_cons_succ, List.getElem?_cons_zero]; rfl)
                case hq35 => exact fun _ _ _ h => h
                case hw35 => (refine Or.inl ⟨by rfl, ?_⟩; intro w hSw; (try dsimp only at hSw); go_simp; try with_reducible rfl)
                (try simp only [Act.put, List.setIfInBounds_toArray, List.set_cons_zero, List.set_cons_succ])
                refine wpAnyH_ready (rs := [36]) (by kernel_rfl) (by simp) ?_
                refine AllReadyH.cons (o := _) rfl (fun K hK => ?_) AllReadyH.nil
                go_simp
                go_at_call 26; (with_reducible refine (HF.out _ (HI2.out.at_ (by (repeat (first | with_reducible assumption | with_reducible exact Below.refl _ _ | with_reducible refine Below.drew ?_ | with_reducible refine belowDrewN ?_ _ | ((with_reducible refine Below.setCell ?_ ?_ _); rotate_left; focus (first | omega | (simp; done) | (simp; omega))) | ((with_reducible refine Below.alloc ?_ ?_ _); rotate_left; focus (first | omega | (simp; done) | (simp; omega))) | ((with_reducible refine Below.trans ?_ (Below.mono hb1 ?_)); rotate_left; focus (first | omega | (simp; done) | (simp; omega))) | ((with_reducible refine Below.trans ?_ (Below.mono hb2 ?_)); rotate_left; focus (first | omega | (simp; done) | (simp; omega))) | ((with_reducible refine Below.trans ?_ (Below.mono hb3 ?_)); rotate_left; focus (first | omega | (simp; done) | (simp; omega))))))) (HI2'.out.at_ (by (repeat (first | with_reducible assumption | with_reducible exact Below.refl _ _ | with_reducible refine Below.drew ?_ | with_reducible refine belowDrewN ?_ _ | ((with_reducible refine Below.setCell ?_ ?_ _); rotate_left; focus (first | omega | (simp; done) | (simp; omega))) | ((with_reducible refine Below.alloc ?_ ?_ _); rotate_left; focus (first | omega | (simp; done) | (simp; omega))) | ((with_reducible refine Below.trans ?_ (Below.mono hb1 ?_)); rotate_left; focus (first | omega | (simp; done) | (simp; omega))) | ((with_reducible refine Below.trans ?_ (Below.mono hb2 ?_)); rotate_left; focus (first | omega | (simp; done) | (simp; omega))) | ((with_reducible refine Below.trans ?_ (Below.mono hb3 ?_)); rotate_left; focus (first | omega | (simp; done) | (simp; omega)))))))).mono ?_); rintro e w2 ⟨rfl, hb2⟩; obtain ⟨hc2, hf2⟩ := bcell hb2; have hz2 := hb2.size; (try simp only [World.size_alloc, World.size_setCell, World.size_drew, sizeDrewN] at hz2 hc2 hf2); have hp2 : b < w2.heap.size := (by omega); have hp2' : b' < w2.heap.size := (by omega); have hs2 : (w2.cell? ⟨b, off + j * 12, none⟩ = some (.int .i64 k1) ∧ w2.cell? ⟨b, off + j * 12 + 1, none⟩ = some (.int .i64 n1) ∧ w2.cell? ⟨b, off + j * 12 + 2, none⟩ = some (.string s1) ∧ w2.cell? ⟨b, off + j * 12 + 3, none⟩ = some (.slice xa1 x1.length xc1) ∧ w2.cell? ⟨b, off + j * 12 + 4, none⟩ = some (.slice a1 ms1.length cap1) ∧ w2.cell? ⟨b, off + j * 12 + 5, none⟩ = some (.int .i64 D) ∧ w2.cell? ⟨b, off + j * 12 + 6, none⟩ = some (.int .i64 k2) ∧ w2.cell? ⟨b, off + j * 12 + 7, none⟩ = some (.int .i64 n2) ∧ w2.cell? ⟨b, off + j * 12 + 8, none⟩ = some (.string s2) ∧ w2.cell? ⟨b, off + j * 12 + 9, none⟩ = some (.slice xa2 x2.length xc2) ∧ w2.cell? ⟨b, off + j * 12 + 10, none⟩ = some (.slice a2 ms2.length cap2) ∧ w2.cell? ⟨b, off + j * 12 + 11, none⟩ = some (.slice a3 ms3.length cap3) ∧ w2.cell? ⟨b', off' + j * 12, none⟩ = some (.int .i64 k1') ∧ w2.cell? ⟨b', off' + j * 12 + 1, none⟩ = some (.int .i64 n1') ∧ w2.cell? ⟨b', off' + j * 12 + 2, none⟩ = some (.string s1') ∧ w2.cell? ⟨b', off' + j * 12 + 3, none⟩ = some (.slice xa1' x1'.length xc1') ∧ w2.cell? ⟨b', off' + j * 12 + 4, none⟩ = some (.slice a1' ms1'.length cap1') ∧ w2.cell? ⟨b', off' + j * 12 + 5, none⟩ = some (.int .i64 D') ∧ w2.cell? ⟨b', off' + j * 12 + 6, none⟩ = some (.int .i64 k2') ∧ w2.cell? ⟨b', off' + j * 12 + 7, none⟩ = some (.int .i64 n2') ∧ w2.cell? ⟨b', off' + j * 12 + 8, none⟩ = some (.string s2') ∧ w2.cell? ⟨b', off' + j * 12 + 9, none⟩ = some (.slice xa2' x2'.length xc2') ∧ w2.cell? ⟨b', off' + j * 12 + 10, none⟩ = some (.slice a2' ms2'.length cap2') ∧ w2.cell? ⟨b', off' + j * 12 + 11, none⟩ = some (.slice a3' ms3'.length cap3')) := (by first | (simp (disch := omega) only [hc2, hs3, and_self, go_sem, World.cell?_drew]; done) | (simp (disch := omega) only [hc2, hs1, and_self, go_sem, World.cell?_drew]; done) | (simp (disch := omega) only [hc2, hs0, and_self, go_sem, World.cell?_drew]; done))
                refine hK.out _ _ (by (try dsimp only); first | exact hs2 | (first | (with_reducible exact hs0) | (with_reducible exact hs1) | (with_reducible exact hs2) | (with_reducible exact hs3) | (simp only [World.cell?_drew]; first | (with_reducible exact hs0) | (with_reducible exact hs1) | (with_reducible exact hs2) | (with_reducible exact hs3)))) (fun hHeld => ?_)
                clear hK K
                (try simp only [Act.put, List.setIfInBounds_toArray, List.set_cons_zero, List.set_cons_succ])
                refine wpAnyH_take (i := 37) (oi := ?oo36) (v := ?vv36) ?hi36 (by kernel_rfl) (by kernel_rfl) (by kernel_rfl) ?hq36 ?hw36 (by assumption) ?rest36
                case hi36 => (simp only [List.getElem?_toArray, List.getElem?_cons_succ, List.getElem?_cons_zero]; rfl)
                case hq36 => exact fun _ _ _ h => h
                case hw36 => (refine Or.inl ⟨by rfl, ?_⟩; intro w hSw; (try dsimp only at hSw); go_simp; try with_reducible rfl)
                (try simp only [Act.put, List.setIfInBounds_toArray, List.set_cons_zero, List.set_cons_succ])
                refine wpAnyH_take (i := 38) (oi := ?oo37) (v := ?vv37) ?hi37 (by kernel_rfl) (by kernel_rfl) (by kernel_rfl) ?hq37 ?hw37 (by assumption) ?rest37
                case hi37 => (simp only [List.getElem?_toArray, List.getElem?_cons_succ, List.getElem?_cons_zero]; rfl)
                case hq37 => exact fun _ _ _ h => h
                case hw37 => (refine Or.inl ⟨by rfl, ?_⟩; intro w hSw; (try dsimp only at hSw); go_simp; try with_reducible rfl)
                (try simp only [Act.put, List.setIfInBounds_toArray, List.set_cons_zero, List.set_cons_succ])
                refine wpAnyH_take (i := 39) (oi := ?oo38) (v := ?vv38) ?hi38 (by kernel_rfl) (by kernel_rfl) (by kernel_rfl) ?hq38 ?hw38 (by assumption) ?rest38
                case hi38 => (simp only [List.getElem?_toArray, List.getElem?_cons_succ, List.getElem?_cons_zero]; rfl)
                case hq38 => exact fun _ _ _ h => h
                case hw38 => (refine Or.inl ⟨by rfl, ?_⟩; intro w hSw; (try dsimp only at hSw); go_simp; try with_reducible rfl)
                (try simp only [Act.put, List.setIfInBounds_toArray, List.set_cons_zero, List.set_cons_succ])
                refine wpAnyH_take (i := 40) (oi := ?oo39) (v := ?vv39) ?hi39 (by kernel_rfl) (by kernel_rfl) (by kernel_rfl) ?hq39 ?hw39 (by assumption) ?rest39
                case hi39 => (simp only [List.getElem?_toArray, List.getElem?_cons_succ, List.getElem?_cons_zero]; rfl)
                case hq39 => exact fun _ _ _ h => h
                case hw39 => (refine Or.inl ⟨by rfl, ?_⟩; intro w hSw; (try dsimp only at hSw); go_simp; try with_reducible rfl)
                (try simp only [Act.put, List.setIfInBounds_toArray, List.set_cons_zero, List.set_cons_succ])
                refine wpAnyH_take (i := 41) (oi := ?oo40) (v := ?vv40) ?hi40 (by kernel_rfl) (by kernel_rfl) (by kernel_rfl) ?hq40 ?hw40 (by assumption) ?rest40
                case hi40 => (simp only [List.getElem?_toArray, List.getElem?_cons_succ, List.getElem?_cons_zero]; rfl)
                case hq40 => exact fun _ _ _ h => h
                case hw40 => (refine Or.inl ⟨by rfl, ?_⟩; intro w hSw; (try dsimp only at hSw); go_simp; try with_reducible rfl)
                (try simp only [Act.put, List.setIfInBounds_toArray, List.set_cons_zero, List.set_cons_succ])
                refine wpAnyH_take (i := 42) (oi := ?oo41) (v := ?vv41) ?hi41 (by kernel_rfl) (by kernel_rfl) (by kernel_rfl) ?hq41 ?hw41 (by assumption) ?rest41
                case hi41 => (simp only [List.getElem?_toArray, List.getElem?_cons_succ, List.getElem?_cons_zero]; rfl)
                case hq41 => exact fun _ _ _ h => h
                case hw41 => (refine Or.inl ⟨by rfl, ?_⟩; intro w hSw; (try dsimp only at hSw); go_simp; try with_reducible rfl)
                (try simp only [Act.put, List.setIfInBounds_toArray, List.set_cons_zero, List.set_cons_succ])
                refine wpAnyH_take (i := 43) (oi := ?oo42) (v := ?vv42) ?hi42 (by kernel_rfl) (by kernel_rfl) (by kernel_rfl) ?hq42 ?hw42 (by assumption) ?rest42
                case hi42 => (simp only [List.getElem?_toArray, List.getElem?_cons_succ, List.getElem?_cons_zero]; rfl)
                case hq42 => exact fun _ _ _ h => h
                case hw42 => (refine Or.inl ⟨by rfl, ?_⟩; intro w hSw; (try dsimp only at hSw); go_simp; try with_reducible rfl)
                (try simp only [Act.put, List.setIfInBounds_toArray, List.set_cons_zero, List.set_cons_succ])
                refine wpAnyH_take (i := 44) (oi := ?oo43) (v := ?vv43) ?hi43 (by kernel_rfl) (by kernel_rfl) (by kernel_rfl) ?hq43 ?hw43 (by assumption) ?rest43
                case hi43 => (simp only [List.getElem?_toArray, List.getElem?_cons_succ, List.getElem?_cons_zero]; rfl)
                case hq43 => exact fun _ _ _ h => h
                case hw43 => (refine Or.inl ⟨by rfl, ?_⟩; intro w hSw; (try dsimp only at hSw); go_simp; try with_reducible rfl)
                (try simp only [Act.put, List.setIfInBounds_toArray, List.set_cons_zero, List.set_cons_succ])
                refine wpAnyH_take (i := 45) (oi := ?oo44) (v := ?vv44) ?hi44 (by kernel_rfl) (by kernel_rfl) (by kernel_rfl) ?hq44 ?hw44 (by assumption) ?rest44
                case hi44 => (simp only [List.getElem?_toArray, List.getElem?_cons_succ, List.getElem?_cons_zero]; rfl)
                case hq44 => exact fun _ _ _ h => h
                case hw44 => (refine Or.inl ⟨by rfl, ?_⟩; intro w hSw; (try dsimp only at hSw); go_simp; try with_reducible rfl)
                (try simp only [Act.put, List.setIfInBounds_toArray, List.set_cons_zero, List.set_cons_succ])
                refine wpAnyH_take (i := 46) (oi := ?oo45) (v := ?vv45) ?hi45 (by kernel_rfl) (by kernel_rfl) (by kernel_rfl) ?hq45 ?hw45 (by assumption) ?rest45
                case hi45 => (simp only [List.getElem?_toArray, List.getElem?_cons_succ, List.getElem?_cons_zero]; rfl)
                case hq45 => exact fun _ _ _ h => h
                case hw45 => (refine Or.inl ⟨by rfl, ?_⟩; intro w hSw; (try dsimp only at hSw); go_simp; try with_reducible rfl)
                (try simp only [Act.put, List.setIfInBounds_toArray, List.set_cons_zero, List.set_cons_succ])
                refine wpAnyH_take (i := 47) (oi := ?oo46) (v := ?vv46) ?hi46 (by kernel_rfl) (by kernel_rfl) (by kernel_rfl) ?hq46 ?hw46 (by assumption) ?rest46
                case hi46 => (simp only [List.getElem?_toArray, List.getElem?_cons_succ, List.getElem?_cons_zero]; rfl)
                case hq46 => exact fun _ _ _ h => h
                case hw46 => (refine Or.inl ⟨by rfl, ?_⟩; intro w hSw; (try dsimp only at hSw); go_simp; try with_reducible rfl)
                (try simp only [Act.put, List.setIfInBounds_toArray, List.set_cons_zero, List.set_cons_succ])
                refine wpAnyH_take (i := 48) (oi := ?oo47) (v := ?vv47) ?hi47 (by kernel_rfl) (by kernel_rfl) (by kernel_rfl) ?hq47 ?hw47 (by assumption) ?rest47
                case hi47 => (simp only [List.getElem?_toArray, List.getElem?_cons_succ, List.getElem?_cons_zero]; rfl)
                case hq47 => exact fun _ _ _ h => h
                case hw47 => (refine Or.inl ⟨by rfl, ?_⟩; intro w hSw; (try dsimp only at hSw); go_simp; try with_reducible rfl)
                (try simp only [Act.put, List.setIfInBounds_toArray, List.set_cons_zero, List.set_cons_succ])
                refine wpAnyH_take (i := 49) (oi := ?oo48) (v := ?vv48) ?hi48 (by kernel_rfl) (by kernel_rfl) (by kernel_rfl) ?hq48 ?hw48 (by assumption) ?rest48
                case hi48 => (simp only [List.getElem?_toArray, List.getElem?_cons_succ, List.getElem?_cons_zero]; rfl)
                case hq48 => exact fun _ _ _ h => h
                case hw48 => (refine Or.inl ⟨by rfl, ?_⟩; intro w hSw; (try dsimp only at hSw); go_simp; try with_reducible rfl)
                (try simp only [Act.put, List.setIfInBounds_toArray, List.set_cons_zero, List.set_cons_succ])
                refine wpAnyH_ready (rs := [50]) (by kernel_rfl) (by simp) ?_
                refine AllReadyH.cons (o := _) rfl (fun K hK => ?_) AllReadyH.nil
                go_simp
                go_at_call 8; (with_reducible refine (HE.out _ (HIN3.out.below (by (repeat (first | with_reducible assumption | with_reducible exact Below.refl _ _ | with_reducible refine Below.drew ?_ | with_reducible refine belowDrewN ?_ _ | ((with_reducible refine Below.setCell ?_ ?_ _); rotate_left; focus (first | omega | (simp; done) | (simp; omega))) | ((with_reducible refine Below.alloc ?_ ?_ _); rotate_left; focus (first | omega | (simp; done) | (simp; omega))) | ((with_reducible refine Below.trans ?_ (Below.mono hb1 ?_)); rotate_left; focus (first | omega | (simp; done) | (simp; omega))) | ((with_reducible refine Below.trans ?_ (Below.mono hb2 ?_)); rotate_left; focus (first | omega | (simp; done) | (simp; omega))) | ((with_reducible refine Below.trans ?_ (Below.mono hb3 ?_)); rotate_left; focus (first | omega | (simp; done) | (simp; omega))))))) (HIN3'.out.below (by (repeat (first | with_reducible assumption | with_reducible exact Below.refl _ _ | with_reducible refine Below.drew ?_ | with_reducible refine belowDrewN ?_ _ | ((with_reducible refine Below.setCell ?_ ?_ _); rotate_left; focus (first | omega | (simp; done) | (simp; omega))) | ((with_reducible refine Below.alloc ?_ ?_ _); rotate_left; focus (first | omega | (simp; done) | (simp; omega))) | ((with_reducible refine Below.trans ?_ (Below.mono hb1 ?_)); rotate_left; focus (first | omega | (simp; done) | (simp; omega))) | ((with_reducible refine Below.trans ?_ (Below.mono hb2 ?_)); rotate_left; focus (first | omega | (simp; done) | (simp; omega))) | ((with_reducible refine Below.trans ?_ (Below.mono hb3 ?_)); rotate_left; focus (first | omega | (simp; done) | (simp; omega)))))))).mono ?_); rintro e w3 ⟨rfl, hb3⟩; obtain ⟨hc3, hf3⟩ := bcell hb3; have hz3 := hb3.size; (try simp only [World.size_alloc, World.size_setCell, World.size_drew, sizeDrewN] at hz3 hc3 hf3); have hp3 : b < w3.heap.size := (by omega); have hp3' : b' < w3.heap.size := (by omega); have hs3 : (w3.cell? ⟨b, off + j * 12, none⟩ = some (.int .i64 k1) ∧ w3.cell? ⟨b, off + j * 12 + 1, none⟩ = some (.int .i64 n1) ∧ w3.cell? ⟨b, off + j * 12 + 2, none⟩ = some (.string s1) ∧ w3.cell? ⟨b, off + j * 12 + 3, none⟩ = some (.slice xa1 x1.length xc1) ∧ w3.cell? ⟨b, off + j * 12 + 4, none⟩ = some (.slice a1 ms1.length cap1) ∧ w3.cell? ⟨b, off + j * 12 + 5, none⟩ = some (.int .i64 D) ∧ w3.cell? ⟨b, off + j * 12 + 6, none⟩ = some (.int .i64 k2) ∧ w3.cell? ⟨b, off + j * 12 + 7, none⟩ = some (.int .i64 n2) ∧ w3.cell? ⟨b, off + j * 12 + 8, none⟩ = some (.string s2) ∧ w3.cell? ⟨b, off + j * 12 + 9, none⟩ = some (.slice xa2 x2.length xc2) ∧ w3.cell? ⟨b, off + j * 12 + 10, none⟩ = some (.slice a2 ms2.length cap2) ∧ w3.cell? ⟨b, off + j * 12 + 11, none⟩ = some (.slice a3 ms3.length cap3) ∧ w3.cell? ⟨b', off' + j * 12, none⟩ = some (.int .i64 k1') ∧ w3.cell? ⟨b', off' + j * 12 + 1, none⟩ = some (.int .i64 n1') ∧ w3.cell? ⟨b', off' + j * 12 + 2, none⟩ = some (.string s1') ∧ w3.cell? ⟨b', off' + j * 12 + 3, none⟩ = some (.slice xa1' x1'.length xc1') ∧ w3.cell? ⟨b', off' + j * 12 + 4, none⟩ = some (.slice a1' ms1'.length cap1') ∧ w3.cell? ⟨b', off' + j * 12 + 5, none⟩ = some (.int .i64 D') ∧ w3.cell? ⟨b', off' + j * 12 + 6, none⟩ = some (.int .i64 k2') ∧ w3.cell? ⟨b', off' + j * 12 + 7, none⟩ = some (.int .i64 n2') ∧ w3.cell? ⟨b', off' + j * 12 + 8, none⟩ = some (.string s2') ∧ w3.cell? ⟨b', off' + j * 12 + 9, none⟩ = some (.slice xa2' x2'.length xc2') ∧ w3.cell? ⟨b', off' + j * 12 + 10, none⟩ = some (.slice a2' ms2'.length cap2') ∧ w3.cell? ⟨b', off' + j * 12 + 11, none⟩ = some (.slice a3' ms3'.length cap3')) := (by first | (simp (disch := omega) only [hc3, hs2, and_self, go_sem, World.cell?_drew]; done) | (simp (disch := omega) only [hc3, hs1, and_self, go_sem, World.cell?_drew]; done) | (simp (disch := omega) only [hc3, hs0, and_self, go_sem, World.cell?_drew]; done))
                refine hK.out _ _ (by (try dsimp only); first | exact hs3 | (first | (with_reducible exact hs0) | (with_reducible exact hs1) | (with_reducible exact hs2) | (with_reducible exact hs3) | (simp only [World.cell?_drew]; first | (with_reducible exact hs0) | (with_reducible exact hs1) | (with_reducible exact hs2) | (with_reducible exact hs3)))) (fun hHeld => ?_)
                clear hK K
                (try simp only [Act.put, List.setIfInBounds_toArray, List.set_cons_zero, List.set_cons_succ])
                refine wpAnyH_take (i := 51) (oi := ?oo49) (v := ?vv49) ?hi49 (by kernel_rfl) (by kernel_rfl) (by kernel_rfl) ?hq49 ?hw49 (by assumption) ?rest49
                case hi49 => (simp only [List.getElem?_toArray, List.getElem?_cons_succ, List.getElem?_cons_zero]; rfl)
                case hq49 => exact fun _ _ _ h => h
                case hw49 => (refine Or.inl ⟨by rfl, ?_⟩; intro w hSw; (try dsimp only at hSw); go_simp; try with_reducible rfl)
                (try simp only [Act.put, List.setIfInBounds_toArray, List.set_cons_zero, List.set_cons_succ])
                refine wpAnyH_take (i := 52) (oi := ?oo50) (v := ?vv50) ?hi50 (by kernel_rfl) (by kernel_rfl) (by kernel_rfl) ?hq50 ?hw50 (by assumption) ?rest50
                case hi50 => (simp only [List.getElem?_toArray, List.getElem?_cons_succ, List.getElem?_cons_zero]; rfl)
                case hq50 => exact fun _ _ _ h => h
                case hw50 => (refine Or.inl ⟨by rfl, ?_⟩; intro w hSw; (try dsimp only at hSw); go_simp; try with_reducible rfl)
                (try simp only [Act.put, List.setIfInBounds_toArray, List.set_cons_zero, List.set_cons_succ])
                refine wpAnyH_done (by kernel_rfl) ?_ _
                go_wp2_with fail
                go_ret
                exact ⟨ret_b ((capB_not _ _).2 HNE.out).symm, by (repeat (first | with_reducible assumption | with_reducible exact Below.refl _ _ | with_reducible refine Below.drew ?_ | with_reducible refine belowDrewN ?_ _ | ((with_reducible refine Below.setCell ?_ ?_ _); rotate_left; focus (first | omega | (simp; done) | (simp; omega))) | ((with_reducible refine Below.alloc ?_ ?_ _); rotate_left; focus (first | omega | (simp; done) | (simp; omega))) | ((with_reducible refine Below.trans ?_ (Below.mono hb1 ?_)); rotate_left; focus (first | omega | (simp; done) | (simp; omega))) | ((with_reducible refine Below.trans ?_ (Below.mono hb2 ?_)); rotate_left; focus (first | omega | (simp; done) | (simp; omega))) | ((with_reducible refine Below.trans ?_ (Below.mono hb3 ?_)); rotate_left; focus (first | omega | (simp; done) | (simp; omega)))))⟩
            · have hN : ∀ W, (SynOwn 33 xa1 xc1 x1 a1 cap1 ms1).In W → (SynOwn 33 xa1' xc1' x1' a1' cap1' ms1').In W → Calls Try.prog 26 #[.agg #[.int .i64 k1, .int .i64 n1, .string s1, .slice xa1 x1.length xc1, .slice a1 ms1.length cap1], .agg #[.int .i64 k1', .int .i64 n1', .string s1', .slice xa1' x1'.length xc1', .slice a1' ms1'.length cap1']] W (Ret (.bool true) W) := fun W h1 h2 => by
                have h := sEqualSyntax_calls ds1 k1 n1 s1 x1 xa1 xc1 a1 cap1 ms1 k1' n1' s1' x1' xa1' xc1' a1' cap1' ds1' ms1' W hi1.is h1 hi1'.is h2
                rw [(eqSB_iff _ _).2 heN] at h
                exact h
              have hD : (D != D') = false := by simp [heD]
              have hF : ∀ W, (SynOwn 33 xa2 xc2 x2 a2 cap2 ms2).In W → (SynOwn 33 xa2' xc2' x2' a2' cap2' ms2').In W → Calls Try.prog 26 #[.agg #[.int .i64 k2, .int .i64 n2, .string s2, .slice xa2 x2.length xc2, .slice a2 ms2.length cap2], .agg #[.int .i64 k2', .int .i64 n2', .string s2', .slice xa2' x2'.length xc2', .slice a2' ms2'.length cap2']] W (Ret (.bool false) W) := fun W h1 h2 => by
                have h := sEqualSyntax_calls ds2 k2 n2 s2 x2 xa2 xc2 a2 cap2 ms2 k2' n2' s2' x2' xa2' xc2' a2' cap2' ds2' ms2' W hi2.is h1 hi2'.is h2
                rw [(eqSB_not _ _).2 heF] at h
                exact h
              have hne := ne_of_get hd hd' (fun e => heF (by injection e))
              have HI1 := Lib.hid hi1; clear hi1; have HI2 := Lib.hid hi2; clear hi2; have HI3 := Lib.hid hi3; clear hi3; have HIN3 := Lib.hid hin3; clear hin3; have HI1' := Lib.hid hi1'; clear hi1'; have HI2' := Lib.hid hi2'; clear hi2'; have HI3' := Lib.hid hi3'; clear hi3'; have HIN3' := Lib.hid hin3'; clear hin3'; have HD := Lib.hid hd; clear hd; have HD' := Lib.hid hd'; clear hd'; have HPRE := Lib.hid hpre; clear hpre; have HEN := Lib.hid heN; clear heN; have HED := Lib.hid heD; clear heD; have HEF := Lib.hid heF; clear heF; have HN := Lib.hid hN; clear hN; have HF := Lib.hid hF; clear hF; have HNE := Lib.hid hne; clear hne
              go_wp2_with fail
              refine wp_region_held_drew (S := fun w' => (w'.cell? ⟨b, off + j * 12, none⟩ = some (.int .i64 k1) ∧ w'.cell? ⟨b, off + j * 12 + 1, none⟩ = some (.int .i64 n1) ∧ w'.cell? ⟨b, off + j * 12 + 2, none⟩ = some (.string s1) ∧ w'.cell? ⟨b, off + j * 12 + 3, none⟩ = some (.slice xa1 x1.length xc1) ∧ w'.cell? ⟨b, off + j * 12 + 4, none⟩ = some (.slice a1 ms1.length cap1) ∧ w'.cell? ⟨b, off + j * 12 + 5, none⟩ = some (.int .i64 D) ∧ w'.cell? ⟨b, off + j * 12 + 6, none⟩ = some (.int .i64 k2) ∧ w'.cell? ⟨b, off + j * 12 + 7, none⟩ = some (.int .i64 n2) ∧ w'.cell? ⟨b, off + j * 12 + 8, none⟩ = some (.string s2) ∧ w'.cell? ⟨b, off + j * 12 + 9, none⟩ = some (.slice xa2 x2.length xc2) ∧ w'.cell? ⟨b, off + j * 12 + 10, none⟩ = some (.slice a2 ms2.length cap2) ∧ w'.cell? ⟨b, off + j * 12 + 11, none⟩ = some (.slice a3 ms3.length cap3) ∧ w'.cell? ⟨b', off' + j * 12, none⟩ = some (.int .i64 k1') ∧ w'.cell? ⟨b', off' + j * 12 + 1, none⟩ = some (.int .i64 n1') ∧ w'.cell? ⟨b', off' + j * 12 + 2, none⟩ = some (.string s1') ∧ w'.cell? ⟨b', off' + j * 12 + 3, none⟩ = some (.slice xa1' x1'.length xc1') ∧ w'.cell? ⟨b', off' + j * 12 + 4, none⟩ = some (.slice a1' ms1'.length cap1') ∧ w'.cell? ⟨b', off' + j * 12 + 5, none⟩ = some (.int .i64 D') ∧ w'.cell? ⟨b', off' + j * 12 + 6, none⟩ = some (.int .i64 k2') ∧ w'.cell? ⟨b', off' + j * 12 + 7, none⟩ = some (.int .i64 n2') ∧ w'.cell? ⟨b', off' + j * 12 + 8, none⟩ = some (.string s2') ∧ w'.cell? ⟨b', off' + j * 12 + 9, none⟩ = some (.slice xa2' x2'.length xc2') ∧ w'.cell? ⟨b', off' + j * 12 + 10, none⟩ = some (.slice a2' ms2'.length cap2') ∧ w'.cell? ⟨b', off' + j * 12 + 11, none⟩ = some (.slice a3' ms3'.length cap3'))) (by kernel_rfl) ?_ (fun hHeld => ?_)
              · (first | (with_reducible exact hs0) | (with_reducible exact hs1) | (with_reducible exact hs2) | (simp only [World.cell?_drew]; first | (with_reducible exact hs0) | (with_reducible exact hs1) | (with_reducible exact hs2)))
              refine wpAnyH_take (i := 0) (oi := ?oo51) (v := ?vv51) ?hi51 (by kernel_rfl) (by kernel_rfl) (by kernel_rfl) ?hq51 ?hw51 (by assumption) ?rest51
              case hi51 => (simp only [List.getElem?_toArray, List.getElem?_cons_succ, List.getElem?_cons_zero]; rfl)
              case hq51 => exact fun _ _ _ h => h
              case hw51 => (refine Or.inl ⟨by rfl, ?_⟩; intro w hSw; (try dsimp only at hSw); go_simp; try with_reducible rfl)
              (try simp only [Act.put, List.setIfInBounds_toArray, List.set_cons_zero, List.set_cons_succ])
              refine wpAnyH_take (i := 1) (oi := ?oo52) (v := ?vv52) ?hi52 (by kernel_rfl) (by kernel_rfl) (by kernel_rfl) ?hq52 ?hw52 (by assumption) ?rest52
              case hi52 => (simp only [List.getElem?_toArray, List.getElem?_cons_succ, List.getElem?_cons_zero]; rfl)
              case hq52 => exact fun _ _ _ h => h
              case hw52 => (refine Or.inl ⟨by rfl, ?_⟩; intro w hSw; (try dsimp only at hSw); go_simp; try with_reducible rfl)
              (try simp only [Act.put, List.setIfInBounds_toArray, List.set_cons_zero, List.set_cons_succ])
              refine wpAnyH_take (i := 2) (oi := ?oo53) (v := ?vv53) ?hi53 (by kernel_rfl) (by kernel_rfl) (by kernel_rfl) ?hq53 ?hw53 (by assumption) ?rest53
              case hi53 => (simp only [List.getElem?_toArray, List.getElem?_cons_succ, List.getElem?_cons_zero]; rfl)
              case hq53 => exact fun _ _ _ h => h
              case hw53 => (refine Or.inl ⟨by rfl, ?_⟩; intro w hSw; (try dsimp only at hSw); go_simp; try with_reducible rfl)
              (try simp only [Act.put, List.setIfInBounds_toArray, List.set_cons_zero, List.set_cons_succ])
              refine wpAnyH_take (i := 3) (oi := ?oo54) (v := ?vv54) ?hi54 (by kernel_rfl) (by kernel_rfl) (by kernel_rfl) ?hq54 ?hw54 (by assumption) ?rest54
              case hi54 => (simp only [List.getElem?_toArray, List.getElem?_cons_succ, List.getElem?_cons_zero]; rfl)
              case hq54 => exact fun _ _ _ h => h
              case hw54 => (refine Or.inl ⟨by rfl, ?_⟩; intro w hSw; (try dsimp only at hSw); go_simp; try with_reducible rfl)
              (try simp only [Act.put, List.setIfInBounds_toArray, List.set_cons_zero, List.set_cons_succ])
              refine wpAnyH_take (i := 4) (oi := ?oo55) (v := ?vv55) ?hi55 (by kernel_rfl) (by kernel_rfl) (by kernel_rfl) ?hq55 ?hw55 (by assumption) ?rest55
              case hi55 => (simp only [List.getElem?_toArray, List.getElem?_cons_succ, List.getElem?_cons_zero]; rfl)
              case hq55 => exact fun _ _ _ h => h
              case hw55 => (refine Or.inl ⟨by rfl, ?_⟩; intro w hSw; (try dsimp only at hSw); go_simp; try with_reducible rfl)
              (try simp only [Act.put, List.setIfInBounds_toArray, List.set_cons_zero, List.set_cons_succ])
              refine wpAnyH_take (i := 5) (oi := ?oo56) (v := ?vv56) ?hi56 (by kernel_rfl) (by kernel_rfl) (by kernel_rfl) ?hq56 ?hw56 (by assumption) ?rest56
              case hi56 => (simp only [List.getElem?_toArray, List.getElem?_cons_succ, List.getElem?_cons_zero]; rfl)
              case hq56 => exact fun _ _ _ h => h
              case hw56 => (refine Or.inl ⟨by rfl, ?_⟩; intro w hSw; (try dsimp only at hSw); go_simp; try with_reducible rfl)
              (try simp only [Act.put, List.setIfInBounds_toArray, List.set_cons_zero, List.set_cons_succ])
              refine wpAnyH_take (i := 6) (oi := ?oo57) (v := ?vv57) ?hi57 (by kernel_rfl) (by kernel_rfl) (by kernel_rfl) ?hq57 ?hw57 (by assumption) ?rest57
              case hi57 => (simp only [List.getElem?_toArray, List.getElem?_cons_succ, List.getElem?_cons_zero]; rfl)
              case hq57 => exact fun _ _ _ h => h
              case hw57 => (refine Or.inl ⟨by rfl, ?_⟩; intro w hSw; (try dsimp only at hSw); go_simp; try with_reducible rfl)
              (try simp only [Act.put, List.setIfInBounds_toArray, List.set_cons_zero, List.set_cons_succ])
              refine wpAnyH_take (i := 7) (oi := ?oo58) (v := ?vv58) ?hi58 (by kernel_rfl) (by kernel_rfl) (by kernel_rfl) ?hq58 ?hw58 (by assumption) ?rest58
              case hi58 => (simp only [List.getElem?_toArray, List.getElem?_cons_succ, List.getElem?_cons_zero]; rfl)
              case hq58 => exact fun _ _ _ h => h
              case hw58 => (refine Or.inl ⟨by rfl, ?_⟩; intro w hSw; (try dsimp only at hSw); go_simp; try with_reducible rfl)
              (try simp only [Act.put, List.setIfInBounds_toArray, List.set_cons_zero, List.set_cons_succ])
              refine wpAnyH_take (i := 8) (oi := ?oo59) (v := ?vv59) ?hi59 (by kernel_rfl) (by kernel_rfl) (by kernel_rfl) ?hq59 ?hw59 (by assumption) ?rest59
              case hi59 => (simp only [List.getElem?_toArray, List.getElem?_cons_succ, List.getElem?_cons_zero]; rfl)
              case hq59 => exact fun _ _ _ h => h
              case hw59 => (refine Or.inl ⟨by rfl, ?_⟩; intro w hSw; (try dsimp only at hSw); go_simp; try with_reducible rfl)
              (try simp only [Act.put, List.setIfInBounds_toArray, List.set_cons_zero, List.set_cons_succ])
              refine wpAnyH_take (i := 9) (oi := ?oo60) (v := ?vv60) ?hi60 (by kernel_rfl) (by kernel_rfl) (by kernel_rfl) ?hq60 ?hw60 (by assumption) ?rest60
              case hi60 => (simp only [List.getElem?_toArray, List.getElem?_cons_succ, List.getElem?_cons_zero]; rfl)
              case hq60 => exact fun _ _ _ h => h
              case hw60 => (refine Or.inl ⟨by rfl, ?_⟩; intro w hSw; (try dsimp only at hSw); go_simp; try with_reducible rfl)
              (try simp only [Act.put, List.setIfInBounds_toArray, List.set_cons_zero, List.set_cons_succ])
              refine wpAnyH_ready (rs := [10]) (by kernel_rfl) (by simp) ?_
              refine AllReadyH.cons (o := _) rfl (fun K hK => ?_) AllReadyH.nil
              go_simp
              go_at_call 26; (with_reducible refine (HN.out _ (HI1.out.at_ (by (repeat (first | with_reducible assumption | with_reducible exact Below.refl _ _ | with_reducible refine Below.drew ?_ | with_reducible refine belowDrewN ?_ _ | ((with_reducible refine Below.setCell ?_ ?_ _); rotate_left; focus (first | omega | (simp; done) | (simp; omega))) | ((with_reducible refine Below.alloc ?_ ?_ _); rotate_left; focus (first | omega | (simp; done) | (simp; omega))) | ((with_reducible refine Below.trans ?_ (Below.mono hb1 ?_)); rotate_left; focus (first | omega | (simp; done) | (simp; omega))) | ((with_reducible refine Below.trans ?_ (Below.mono hb2 ?_)); rotate_left; focus (first | omega | (simp; done) | (simp; omega))))))) (HI1'.out.at_ (by (repeat (first | with_reducible assumption | with_reducible exact Below.refl _ _ | with_reducible refine Below.drew ?_ | with_reducible refine belowDrewN ?_ _ | ((with_reducible refine Below.setCell ?_ ?_ _); rotate_left; focus (first | omega | (simp; done) | (simp; omega))) | ((with_reducible refine Below.alloc ?_ ?_ _); rotate_left; focus (first | omega | (simp; done) | (simp; omega))) | ((with_reducible refine Below.trans ?_ (Below.mono hb1 ?_)); rotate_left; focus (first | omega | (simp; done) | (simp; omega))) | ((with_reducible refine Below.trans ?_ (Below.mono hb2 ?_)); rotate_left; focus (first | omega | (simp; done) | (simp; omega)))))))).mono ?_); rintro e w1 ⟨rfl, hb1⟩; obtain ⟨hc1, hf1⟩ := bcell hb1; have hz1 := hb1.size; (try simp only [World.size_alloc, World.size_setCell, World.size_drew, sizeDrewN] at hz1 hc1 hf1); have hp1 : b < w1.heap.size := (by omega); have hp1' : b' < w1.heap.size := (by omega); have hs1 : (w1.cell? ⟨b, off + j * 12, none⟩ = some (.int .i64 k1) ∧ w1.cell? ⟨b, off + j * 12 + 1, none⟩ = some (.int .i64 n1) ∧ w1.cell? ⟨b, off + j * 12 + 2, none⟩ = some (.string s1) ∧ w1.cell? ⟨b, off + j * 12 + 3, none⟩ = some (.slice xa1 x1.length xc1) ∧ w1.cell? ⟨b, off + j * 12 + 4, none⟩ = some (.slice a1 ms1.length cap1) ∧ w1.cell? ⟨b, off + j * 12 + 5, none⟩ = some (.int .i64 D) ∧ w1.cell? ⟨b, off + j * 12 + 6, none⟩ = some (.int .i64 k2) ∧ w1.cell? ⟨b, off + j * 12 + 7, none⟩ = some (.int .i64 n2) ∧ w1.cell? ⟨b, off + j * 12 + 8, none⟩ = some (.string s2) ∧ w1.cell? ⟨b, off + j * 12 + 9, none⟩ = some (.slice xa2 x2.length xc2) ∧ w1.cell? ⟨b, off + j * 12 + 10, none⟩ = some (.slice a2 ms2.length cap2) ∧ w1.cell? ⟨b, off + j * 12 + 11, none⟩ = some (.slice a3 ms3.length cap3) ∧ w1.cell? ⟨b', off' + j * 12, none⟩ = some (.int .i64 k1') ∧ w1.cell? ⟨b', off' + j * 12 + 1, none⟩ = some (.int .i64 n1') ∧ w1.cell? ⟨b', off' + j * 12 + 2, none⟩ = some (.string s1') ∧ w1.cell? ⟨b', off' + j * 12 + 3, none⟩ = some (.slice xa1' x1'.length xc1') ∧ w1.cell? ⟨b', off' + j * 12 + 4, none⟩ = some (.slice a1' ms1'.length cap1') ∧ w1.cell? ⟨b', off' + j * 12 + 5, none⟩ = some (.int .i64 D') ∧ w1.cell? ⟨b', off' + j * 12 + 6, none⟩ = some (.int .i64 k2') ∧ w1.cell? ⟨b', off' + j * 12 + 7, none⟩ = some (.int .i64 n2') ∧ w1.cell? ⟨b', off' + j * 12 + 8, none⟩ = some (.string s2') ∧ w1.cell? ⟨b', off' + j * 12 + 9, none⟩ = some (.slice xa2' x2'.length xc2') ∧ w1.cell? ⟨b', off' + j * 12 + 10, none⟩ = some (.slice a2' ms2'.length cap2') ∧ w1.cell? ⟨b', off' + j * 12 + 11, none⟩ = some (.slice a3' ms3'.length cap3')) := (by first | (simp (disch := omega) only [hc1, hs2, and_self, go_sem, World.cell?_drew]; done) | (simp (disch := omega) only [hc1, hs0, and_self, go_sem, World.cell?_drew]; done))
              refine hK.out _ _ (by (try dsimp only); first | exact hs1 | (first | (with_reducible exact hs0) | (with_reducible exact hs1) | (with_reducible exact hs2) | (simp only [World.cell?_drew]; first | (with_reducible exact hs0) | (with_reducible exact hs1) | (with_reducible exact hs2)))) (fun hHeld => ?_)
              clear hK K
              (try simp only [Act.put, List.setIfInBounds_toArray, List.set_cons_zero, List.set_cons_succ])
              refine wpAnyH_take (i := 11) (oi := ?oo61) (v := ?vv61) ?hi61 (by kernel_rfl) (by kernel_rfl) (by kernel_rfl) ?hq61 ?hw61 (by assumption) ?rest61
              case hi61 => (simp only [List.getElem?_toArray, List.getElem?_cons_succ, List.getElem?_cons_zero]; rfl)
              case hq61 => exact fun _ _ _ h => h
              case hw61 => (refine Or.inl ⟨by rfl, ?_⟩; intro w hSw; (try dsimp only at hSw); go_simp; try with_reducible rfl)
              (try simp only [Act.put, List.setIfInBounds_toArray, List.set_cons_zero, List.set_cons_succ])
              refine wpAnyH_take (i := 12) (oi := ?oo62) (v := ?vv62) ?hi62 (by kernel_rfl) (by kernel_rfl) (by kernel_rfl) ?hq62 ?hw62 (by assumption) ?rest62
              case hi62 => (simp only [List.getElem?_toArray, List.getElem?_cons_succ, List.getElem?_cons_zero]; rfl)
              case hq62 => exact fun _ _ _ h => h
              case hw62 => (refine Or.inl ⟨by rfl, ?_⟩; intro w hSw; (try dsimp only at hSw); go_simp; try with_reducible rfl)
              (try simp only [Act.put, List.setIfInBounds_toArray, List.set_cons_zero, List.set_cons_succ])
              refine wpAnyH_take (i := 13) (oi := ?oo63) (v := ?vv63) ?hi63 (by kernel_rfl) (by kernel_rfl) (by kernel_rfl) ?hq63 ?hw63 (by assumption) ?rest63
              case hi63 => (simp only [List.getElem?_toArray, List.getElem?_cons_succ, List.getElem?_cons_zero]; rfl)
              case hq63 => exact fun _ _ _ h => h
              case hw63 => (refine Or.inl ⟨by rfl, ?_⟩; intro w hSw; (try dsimp only at hSw); go_simp; try with_reducible rfl)
              (try simp only [Act.put, List.setIfInBounds_toArray, List.set_cons_zero, List.set_cons_succ])
              refine wpAnyH_take (i := 14) (oi := ?oo64) (v := ?vv64) ?hi64 (by kernel_rfl) (by kernel_rfl) (by kernel_rfl) ?hq64 ?hw64 (by assumption) ?rest64
              case hi64 => (simp only [List.getElem?_toArray, List.getElem?_cons_succ, List.getElem?_cons_zero]; rfl)
              case hq64 => exact fun _ _ _ h => h
              case hw64 => (refine Or.inl ⟨by rfl, ?_⟩; intro w hSw; (try dsimp only at hSw); go_simp; try with_reducible rfl)
              (try simp only [Act.put, List.setIfInBounds_toArray, List.set_cons_zero, List.set_cons_succ])
              refine wpAnyH_take (i := 15) (oi := ?oo65) (v := ?vv65) ?hi65 (by kernel_rfl) (by kernel_rfl) (by kernel_rfl) ?hq65 ?hw65 (by assumption) ?rest65
              case hi65 => (simp only [List.getElem?_toArray, List.getElem?_cons_succ, List.getElem?_cons_zero]; rfl)
              case hq65 => exact fun _ _ _ h => h
              case hw65 => (refine Or.inl ⟨by rfl, ?_⟩; intro w hSw; (try dsimp only at hSw); go_simp; try with_reducible rfl)
              (try simp only [Act.put, List.setIfInBounds_toArray, List.set_cons_zero, List.set_cons_succ])
              refine wpAnyH_take (i := 16) (oi := ?oo66) (v := ?vv66) ?hi66 (by kernel_rfl) (by kernel_rfl) (by kernel_rfl) ?hq66 ?hw66 (by assumption) ?rest66
              case hi66 => (simp only [List.getElem?_toArray, List.getElem?_cons_succ, List.getElem?_cons_zero]; rfl)
              case hq66 => exact fun _ _ _ h => h
              case hw66 => (refine Or.inl ⟨by rfl, ?_⟩; intro w hSw; (try dsimp only at hSw); go_simp; try with_reducible rfl)
              (try simp only [Act.put, List.setIfInBounds_toArray, List.set_cons_zero, List.set_cons_succ])
              refine wpAnyH_take (i := 17) (oi := ?oo67) (v := ?vv67) ?hi67 (by kernel_rfl) (by kernel_rfl) (by kernel_rfl) ?hq67 ?hw67 (by assumption) ?rest67
              case hi67 => (simp only [List.getElem?_toArray, List.getElem?_cons_succ, List.getElem?_cons_zero]; rfl)
              case hq67 => exact fun _ _ _ h => h
              case hw67 => (refine Or.inl ⟨by rfl, ?_⟩; intro w hSw; (try dsimp only at hSw); go_simp; try with_reducible rfl)
              (try simp only [Act.put, List.setIfInBounds_toArray, List.set_cons_zero, List.set_cons_succ])
              refine wpAnyH_take (i := 18) (oi := ?oo68) (v := ?vv68) ?hi68 (by kernel_rfl) (by kernel_rfl) (by kernel_rfl) ?hq68 ?hw68 (by assumption) ?rest68
              case hi68 => (simp only [List.getElem?_toArray, List.getElem?_cons_succ, List.getElem?_cons_zero]; rfl)
              case hq68 => exact fun _ _ _ h => h
              case hw68 => (refine Or.inl ⟨by rfl, ?_⟩; intro w hSw; (try dsimp only at hSw); go_simp; try with_reducible rfl)
              (try simp only [Act.put, List.setIfInBounds_toArray, List.set_cons_zero, List.set_cons_succ])
              refine wpAnyH_take (i := 19) (oi := ?oo69) (v := ?vv69) ?hi69 (by kernel_rfl) (by kernel_rfl) (by kernel_rfl) ?hq69 ?hw69 (by assumption) ?rest69
              case hi69 => (simp only [List.getElem?_toArray, List.getElem?_cons_succ, List.getElem?_cons_zero]; rfl)
              case hq69 => exact fun _ _ _ h => h
              case hw69 => (refine Or.inl ⟨by rfl, ?_⟩; intro w hSw; (try dsimp only at hSw); go_simp; try with_reducible rfl)
              (try simp only [Act.put, List.setIfInBounds_toArray, List.set_cons_zero, List.set_cons_succ])
              refine wpAnyH_take (i := 20) (oi := ?oo70) (v := ?vv70) ?hi70 (by kernel_rfl) (by kernel_rfl) (by kernel_rfl) ?hq70 ?hw70 (by assumption) ?rest70
              case hi70 => (simp only [List.getElem?_toArray, List.getElem?_cons_succ, List.getElem?_cons_zero]; rfl)
              case hq70 => exact fun _ _ _ h => h
              case hw70 => (refine Or.inl ⟨by rfl, ?_⟩; intro w hSw; (try dsimp only at hSw); go_simp; try with_reducible rfl)
              (try simp only [Act.put, List.setIfInBounds_toArray, List.set_cons_zero, List.set_cons_succ])
              refine wpAnyH_take (i := 21) (oi := ?oo71) (v := ?vv71) ?hi71 (by kernel_rfl) (by kernel_rfl) (by kernel_rfl) ?hq71 ?hw71 (by assumption) ?rest71
              case hi71 => (simp only [List.getElem?_toArray, List.getElem?_cons_succ, List.getElem?_cons_zero]; rfl)
              case hq71 => exact fun _ _ _ h => h
              case hw71 => (refine Or.inl ⟨by rfl, ?_⟩; intro w hSw; (try dsimp only at hSw); go_simp; try with_reducible rfl)
              (try simp only [Act.put, List.setIfInBounds_toArray, List.set_cons_zero, List.set_cons_succ])
              refine wpAnyH_take (i := 22) (oi := ?oo72) (v := ?vv72) ?hi72 (by kernel_rfl) (by kernel_rfl) (by kernel_rfl) ?hq72 ?hw72 (by assumption) ?rest72
              case hi72 => (simp only [List.getElem?_toArray, List.getElem?_cons_succ, List.getElem?_cons_zero]; rfl)
              case hq72 => exact fun _ _ _ h => h
              case hw72 => (refine Or.inl ⟨by rfl, ?_⟩; intro w hSw; (try dsimp only at hSw); go_simp; try with_reducible rfl)
              (try simp only [Act.put, List.setIfInBounds_toArray, List.set_cons_zero, List.set_cons_succ])
              refine wpAnyH_take (i := 23) (oi := ?oo73) (v := ?vv73) ?hi73 (by kernel_rfl) (by kernel_rfl) (by kernel_rfl) ?hq73 ?hw73 (by assumption) ?rest73
              case hi73 => (simp only [List.getElem?_toArray, List.getElem?_cons_succ, List.getElem?_cons_zero]; rfl)
              case hq73 => exact fun _ _ _ h => h
              case hw73 => (refine Or.inl ⟨by rfl, ?_⟩; intro w hSw; (try dsimp only at hSw); go_simp; try with_reducible rfl)
              (try simp only [Act.put, List.setIfInBounds_toArray, List.set_cons_zero, List.set_cons_succ])
              refine wpAnyH_take (i := 24) (oi := ?oo74) (v := ?vv74) ?hi74 (by kernel_rfl) (by kernel_rfl) (by kernel_rfl) ?hq74 ?hw74 (by assumption) ?rest74
              case hi74 => (simp only [List.getElem?_toArray, List.getElem?_cons_succ, List.getElem?_cons_zero]; rfl)
              case hq74 => exact fun _ _ _ h => h
              case hw74 => (refine Or.inl ⟨by rfl, ?_⟩; intro w hSw; (try dsimp only at hSw); go_simp; try with_reducible rfl)
              (try simp only [Act.put, List.setIfInBounds_toArray, List.set_cons_zero, List.set_cons_succ])
              refine wpAnyH_take (i := 25) (oi := ?oo75) (v := ?vv75) ?hi75 (by kernel_rfl) (by kernel_rfl) (by kernel_rfl) ?hq75 ?hw75 (by assumption) ?rest75
              case hi75 => (simp only [List.getElem?_toArray, List.getElem?_cons_succ, List.getElem?_cons_zero]; rfl)
              case hq75 => exact fun _ _ _ h => h
              case hw75 => (refine Or.inl ⟨by rfl, ?_⟩; intro w hSw; (try dsimp only at hSw); go_simp; try with_reducible rfl)
              (try simp only [Act.put, List.setIfInBounds_toArray, List.set_cons_zero, List.set_cons_succ])
              refine wpAnyH_take (i := 26) (oi := ?oo76) (v := ?vv76) ?hi76 (by kernel_rfl) (by kernel_rfl) (by kernel_rfl) ?hq76 ?hw76 (by assumption) ?rest76
              case hi76 => (simp only [List.getElem?_toArray, List.getElem?_cons_succ, List.getElem?_cons_zero]; rfl)
              case hq76 => exact fun _ _ _ h => h
              case hw76 => (refine Or.inl ⟨by rfl, ?_⟩; intro w hSw; (try dsimp only at hSw); go_simp; try with_reducible rfl)
              (try simp only [Act.put, List.setIfInBounds_toArray, List.set_cons_zero, List.set_cons_succ])
              refine wpAnyH_take (i := 27) (oi := ?oo77) (v := ?vv77) ?hi77 (by kernel_rfl) (by kernel_rfl) (by kernel_rfl) ?hq77 ?hw77 (by assumption) ?rest77
              case hi77 => (simp only [List.getElem?_toArray, List.getElem?_cons_succ, List.getElem?_cons_zero]; rfl)
              case hq77 => exact fun _ _ _ h => h
              case hw77 => (refine Or.inl ⟨by rfl, ?_⟩; intro w hSw; (try dsimp only at hSw); go_simp; try with_reducible rfl)
              (try simp only [Act.put, List.setIfInBounds_toArray, List.set_cons_zero, List.set_cons_succ])
              refine wpAnyH_take (i := 28) (oi := ?oo78) (v := ?vv78) ?hi78 (by kernel_rfl) (by kernel_rfl) (by kernel_rfl) ?hq78 ?hw78 (by assumption) ?rest78
              case hi78 => (simp only [List.getElem?_toArray, List.getElem?_cons_succ, List.getElem?_cons_zero]; rfl)
              case hq78 => exact fun _ _ _ h => h
              case hw78 => (refine Or.inl ⟨by rfl, ?_⟩; intro w hSw; (try dsimp only at hSw); go_simp; try with_reducible rfl)
              (try simp only [Act.put, List.setIfInBounds_toArray, List.set_cons_zero, List.set_cons_succ])
              refine wpAnyH_take (i := 29) (oi := ?oo79) (v := ?vv79) ?hi79 (by kernel_rfl) (by kernel_rfl) (by kernel_rfl) ?hq79 ?hw79 (by assumption) ?rest79
              case hi79 => (simp only [List.getElem?_toArray, List.getElem?_cons_succ, List.getElem?_cons_zero]; rfl)
              case hq79 => exact fun _ _ _ h => h
              case hw79 => (refine Or.inl ⟨by rfl, ?_⟩; intro w hSw; (try dsimp only at hSw); go_simp; try with_reducible rfl)
              (try simp only [Act.put, List.setIfInBounds_toArray, List.set_cons_zero, List.set_cons_succ])
              refine wpAnyH_take (i := 30) (oi := ?oo80) (v := ?vv80) ?hi80 (by kernel_rfl) (by kernel_rfl) (by kernel_rfl) ?hq80 ?hw80 (by assumption) ?rest80
              case hi80 => (simp only [List.getElem?_toArray, List.getElem?_cons_succ, List.getElem?_cons_zero]; rfl)
              case hq80 => exact fun _ _ _ h => h
              case hw80 => (refine Or.inl ⟨by rfl, ?_⟩; intro w hSw; (try dsimp only at hSw); go_simp; try with_reducible rfl)
              (try simp only [Act.put, List.setIfInBounds_toArray, List.set_cons_zero, List.set_cons_succ])
              refine wpAnyH_take (i := 31) (oi := ?oo81) (v := ?vv81) ?hi81 (by kernel_rfl) (by kernel_rfl) (by kernel_rfl) ?hq81 ?hw81 (by assumption) ?rest81
              case hi81 => (simp only [List.getElem?_toArray, List.getElem?_cons_succ, List.getElem?_cons_zero]; rfl)
              case hq81 => exact fun _ _ _ h => h
              case hw81 => (refine Or.inl ⟨by rfl, ?_⟩; intro w hSw; (try dsimp only at hSw); go_simp; try with_reducible rfl)
              (try simp only [Act.put, List.setIfInBounds_toArray, List.set_cons_zero, List.set_cons_succ])
              refine wpAnyH_take (i := 32) (oi := ?oo82) (v := ?vv82) ?hi82 (by kernel_rfl) (by kernel_rfl) (by kernel_rfl) ?hq82 ?hw82 (by assumption) ?rest82
              case hi82 => (simp only [List.getElem?_toArray, List.getElem?_cons_succ, List.getElem?_cons_zero]; rfl)
              case hq82 => exact fun _ _ _ h => h
              case hw82 => (refine Or.inl ⟨by rfl, ?_⟩; intro w hSw; (try dsimp only at hSw); go_simp; try with_reducible rfl)
              (try simp only [Act.put, List.setIfInBounds_toArray, List.set_cons_zero, List.set_cons_succ])
              refine wpAnyH_take (i := 33) (oi := ?oo83) (v := ?vv83) ?hi83 (by kernel_rfl) (by kernel_rfl) (by kernel_rfl) ?hq83 ?hw83 (by assumption) ?rest83
              case hi83 => (simp only [List.getElem?_toArray, List.getElem?_cons_succ, List.getElem?_cons_zero]; rfl)
              case hq83 => exact fun _ _ _ h => h
              case hw83 => (refine Or.inl ⟨by rfl, ?_⟩; intro w hSw; (try dsimp only at hSw); go_simp; try with_reducible rfl)
              (try simp only [Act.put, List.setIfInBounds_toArray, List.set_cons_zero, List.set_cons_succ])
              refine wpAnyH_take (i := 34) (oi := ?oo84) (v := ?vv84) ?hi84 (by kernel_rfl) (by kernel_rfl) (by kernel_rfl) ?hq84 ?hw84 (by assumption) ?rest84
              case hi84 => (simp only [List.getElem?_toArray, List.getElem?_cons_succ, List.getElem?_cons_zero]; rfl)
              case hq84 => exact fun _ _ _ h => h
              case hw84 => (refine Or.inl ⟨by rfl, ?_⟩; intro w hSw; (try dsimp only at hSw); go_simp; try with_reducible rfl)
              (try simp only [Act.put, List.setIfInBounds_toArray, List.set_cons_zero, List.set_cons_succ])
              refine wpAnyH_take (i := 35) (oi := ?oo85) (v := ?vv85) ?hi85 (by kernel_rfl) (by kernel_rfl) (by kernel_rfl) ?hq85 ?hw85 (by assumption) ?rest85
              case hi85 => (simp only [List.getElem?_toArray, List.getElem?_cons_succ, List.getElem?_cons_zero]; rfl)
              case hq85 => exact fun _ _ _ h => h
              case hw85 => (refine Or.inl ⟨by rfl, ?_⟩; intro w hSw; (try dsimp only at hSw); go_simp; try with_reducible rfl)
              (try simp only [Act.put, List.setIfInBounds_toArray, List.set_cons_zero, List.set_cons_succ])
              refine wpAnyH_ready (rs := [36]) (by kernel_rfl) (by simp) ?_
              refine AllReadyH.cons (o := _) rfl (fun K hK => ?_) AllReadyH.nil
              go_simp
              go_at_call 26; (with_reducible refine (HF.out _ (HI2.out.at_ (by (repeat (first | with_reducible assumption | with_reducible exact Below.refl _ _ | with_reducible refine Below.drew ?_ | with_reducible refine belowDrewN ?_ _ | ((with_reducible refine Below.setCell ?_ ?_ _); rotate_left; focus (first | omega | (simp; done) | (simp; omega))) | ((with_reducible refine Below.alloc ?_ ?_ _); rotate_left; focus (first | omega | (simp; done) | (simp; omega))) | ((with_reducible refine Below.trans ?_ (Below.mono hb1 ?_)); rotate_left; focus (first | omega | (simp; done) | (simp; omega))) | ((with_reducible refine Below.trans ?_ (Below.mono hb2 ?_)); rotate_left; focus (first | omega | (simp; done) | (simp; omega))))))) (HI2'.out.at_ (by (repeat (first | with_reducible assumption | with_reducible exact Below.refl _ _ | with_reducible refine Below.drew ?_ | with_reducible refine belowDrewN ?_ _ | ((with_reducible refine Below.setCell ?_ ?_ _); rotate_left; focus (first | omega | (simp; done) | (simp; omega))) | ((with_reducible refine Below.alloc ?_ ?_ _); rotate_left; focus (first | omega | (simp; done) | (simp; omega))) | ((with_reducible refine Below.trans ?_ (Below.mono hb1 ?_)); rotate_left; focus (first | omega | (simp; done) | (simp; omega))) | ((with_reducible refine Below.trans ?_ (Below.mono hb2 ?_)); rotate_left; focus (first | omega | (simp; done) | (simp; omega)))))))).mono ?_); rintro e w2 ⟨rfl, hb2⟩; obtain ⟨hc2, hf2⟩ := bcell hb2; have hz2 := hb2.size; (try simp only [World.size_alloc, World.size_setCell, World.size_drew, sizeDrewN] at hz2 hc2 hf2); have hp2 : b < w2.heap.size := (by omega); have hp2' : b' < w2.heap.size := (by omega); have hs2 : (w2.cell? ⟨b, off + j * 12, none⟩ = some (.int .i64 k1) ∧ w2.cell? ⟨b, off + j * 12 + 1, none⟩ = some (.int .i64 n1) ∧ w2.cell? ⟨b, off + j * 12 + 2, none⟩ = some (.string s1) ∧ w2.cell? ⟨b, off + j * 12 + 3, none⟩ = some (.slice xa1 x1.length xc1) ∧ w2.cell? ⟨b, off + j * 12 + 4, none⟩ = some (.slice a1 ms1.length cap1) ∧ w2.cell? ⟨b, off + j * 12 + 5, none⟩ = some (.int .i64 D) ∧ w2.cell? ⟨b, off + j * 12 + 6, none⟩ = some (.int .i64 k2) ∧ w2.cell? ⟨b, off + j * 12 + 7, none⟩ = some (.int .i64 n2) ∧ w2.cell? ⟨b, off + j * 12 + 8, none⟩ = some (.string s2) ∧ w2.cell? ⟨b, off + j * 12 + 9, none⟩ = some (.slice xa2 x2.length xc2) ∧ w2.cell? ⟨b, off + j * 12 + 10, none⟩ = some (.slice a2 ms2.length cap2) ∧ w2.cell? ⟨b, off + j * 12 + 11, none⟩ = some (.slice a3 ms3.length cap3) ∧ w2.cell? ⟨b', off' + j * 12, none⟩ = some (.int .i64 k1') ∧ w2.cell? ⟨b', off' + j * 12 + 1, none⟩ = some (.int .i64 n1') ∧ w2.cell? ⟨b', off' + j * 12 + 2, none⟩ = some (.string s1') ∧ w2.cell? ⟨b', off' + j * 12 + 3, none⟩ = some (.slice xa1' x1'.length xc1') ∧ w2.cell? ⟨b', off' + j * 12 + 4, none⟩ = some (.slice a1' ms1'.length cap1') ∧ w2.cell? ⟨b', off' + j * 12 + 5, none⟩ = some (.int .i64 D') ∧ w2.cell? ⟨b', off' + j * 12 + 6, none⟩ = some (.int .i64 k2') ∧ w2.cell? ⟨b', off' + j * 12 + 7, none⟩ = some (.int .i64 n2') ∧ w2.cell? ⟨b', off' + j * 12 + 8, none⟩ = some (.string s2') ∧ w2.cell? ⟨b', off' + j * 12 + 9, none⟩ = some (.slice xa2' x2'.length xc2') ∧ w2.cell? ⟨b', off' + j * 12 + 10, none⟩ = some (.slice a2' ms2'.length cap2') ∧ w2.cell? ⟨b', off' + j * 12 + 11, none⟩ = some (.slice a3' ms3'.length cap3')) := (by first | (simp (disch := omega) only [hc2, hs1, and_self, go_sem, World.cell?_drew]; done) | (simp (disch := omega) only [hc2, hs0, and_self, go_sem, World.cell?_drew]; done))
              refine hK.out _ _ (by (try dsimp only); first | exact hs2 | (first | (with_reducible exact hs0) | (with_reducible exact hs1) | (with_reducible exact hs2) | (simp only [World.cell?_drew]; first | (with_reducible exact hs0) | (with_reducible exact hs1) | (with_reducible exact hs2)))) (fun hHeld => ?_)
              clear hK K
              (try simp only [Act.put, List.setIfInBounds_toArray, List.set_cons_zero, List.set_cons_succ])
              refine wpAnyH_take (i := 37) (oi := ?oo86) (v := ?vv86) ?hi86 (by kernel_rfl) (by kernel_rfl) (by kernel_rfl) ?hq86 ?hw86 (by assumption) ?rest86
              case hi86 => (simp only [List.getElem?_toArray, List.getElem?_cons_succ, List.getElem?_cons_zero]; rfl)
              case hq86 => exact fun _ _ _ h => h
              case hw86 => (refine Or.inl ⟨by rfl, ?_⟩; intro w hSw; (try dsimp only at hSw); go_simp; try with_reducible rfl)
              (try simp only [Act.put, List.setIfInBounds_toArray, List.set_cons_zero, List.set_cons_succ])
              refine wpAnyH_take (i := 38) (oi := ?oo87) (v := ?vv87) ?hi87 (by kernel_rfl) (by kernel_rfl) (by kernel_rfl) ?hq87 ?hw87 (by assumption) ?rest87
              case hi87 => (simp only [List.getElem?_toArray, List.getElem?_cons_succ, List.getElem?_cons_zero]; rfl)
              case hq87 => exact fun _ _ _ h => h
              case hw87 => (refine Or.inl ⟨by rfl, ?_⟩; intro w hSw; (try dsimp only at hSw); go_simp; try with_reducible rfl)
              (try simp only [Act.put, List.setIfInBounds_toArray, List.set_cons_zero, List.set_cons_succ])
              refine wpAnyH_take (i := 39) (oi := ?oo88) (v := ?vv88) ?hi88 (by kernel_rfl) (by kernel_rfl) (by kernel_rfl) ?hq88 ?hw88 (by assumption) ?rest88
              case hi88 => (simp only [List.getElem?_toArray, List.getElem?_cons_succ, List.getElem?_cons_zero]; rfl)
              case hq88 => exact fun _ _ _ h => h
              case hw88 => (refine Or.inl ⟨by rfl, ?_⟩; intro w hSw; (try dsimp only at hSw); go_simp; try with_reducible rfl)
              (try simp only [Act.put, List.setIfInBounds_toArray, List.set_cons_zero, List.set_cons_succ])
              refine wpAnyH_take (i := 40) (oi := ?oo89) (v := undef) ?hi89 (by kernel_rfl) (by kernel_rfl) (by kernel_rfl) ?hq89 ?hw89 (by assumption) ?rest89
              case hi89 => (simp only [List.getElem?_toArray, List.getElem?_cons_succ, List.getElem?_cons_zero]; rfl)
              case hq89 => exact fun _ _ _ h => h
              case hw89 => exact Or.inr ⟨by rfl, rfl⟩
              (try simp only [Act.put, List.setIfInBounds_toArray, List.set_cons_zero, List.set_cons_succ])
              refine wpAnyH_take (i := 41) (oi := ?oo90) (v := undef) ?hi90 (by kernel_rfl) (by kernel_rfl) (by kernel_rfl) ?hq90 ?hw90 (by assumption) ?rest90
              case hi90 => (simp only [List.getElem?_toArray, List.getElem?_cons_succ, List.getElem?_cons_zero]; rfl)
              case hq90 => exact fun _ _ _ h => h
              case hw90 => exact Or.inr ⟨by rfl, rfl⟩
              (try simp only [Act.put, List.setIfInBounds_toArray, List.set_cons_zero, List.set_cons_succ])
              refine wpAnyH_take (i := 42) (oi := ?oo91) (v := undef) ?hi91 (by kernel_rfl) (by kernel_rfl) (by kernel_rfl) ?hq91 ?hw91 (by assumption) ?rest91
              case hi91 => (simp only [List.getElem?_toArray, List.getElem?_cons_succ, List.getElem?_cons_zero]; rfl)
              case hq91 => exact fun _ _ _ h => h
              case hw91 => exact Or.inr ⟨by rfl, rfl⟩
              (try simp only [Act.put, List.setIfInBounds_toArray, List.set_cons_zero, List.set_cons_succ])
              refine wpAnyH_take (i := 43) (oi := ?oo92) (v := undef) ?hi92 (by kernel_rfl) (by kernel_rfl) (by kernel_rfl) ?hq92 ?hw92 (by assumption) ?rest92
              case hi92 => (simp only [List.getElem?_toArray, List.getElem?_cons_succ, List.getElem?_cons_zero]; rfl)
              case hq92 => exact fun _ _ _ h => h
              case hw92 => exact Or.inr ⟨by rfl, rfl⟩
              (try simp only [Act.put, List.setIfInBounds_toArray, List.set_cons_zero, List.set_cons_succ])
              refine wpAnyH_take (i := 44) (oi := ?oo93) (v := undef) ?hi93 (by kernel_rfl) (by kernel_rfl) (by kernel_rfl) ?hq93 ?hw93 (by assumption) ?rest93
              case hi93 => (simp only [List.getElem?_toArray, List.getElem?_cons_succ, List.getElem?_cons_zero]; rfl)
              case hq93 => exact fun _ _ _ h => h
              case hw93 => exact Or.inr ⟨by rfl, rfl⟩
              (try simp only [Act.put, List.setIfInBounds_toArray, List.set_cons_zero, List.set_cons_succ])
              refine wpAnyH_take (i := 45) (oi := ?oo94) (v := undef) ?hi94 (by kernel_rfl) (by kernel_rfl) (by kernel_rfl) ?hq94 ?hw94 (by assumption) ?rest94
              case hi94 => (simp only [List.getElem?_toArray, List.getElem?_cons_succ, List.getElem?_cons_zero]; rfl)
              case hq94 => exact fun _ _ _ h => h
              case hw94 => exact Or.inr ⟨by rfl, rfl⟩
              (try simp only [Act.put, List.setIfInBounds_toArray, List.set_cons_zero, List.set_cons_succ])
              refine wpAnyH_take (i := 46) (oi := ?oo95) (v := undef) ?hi95 (by kernel_rfl) (by kernel_rfl) (by kernel_rfl) ?hq95 ?hw95 (by assumption) ?rest95
              case hi95 => (simp only [List.getElem?_toArray, List.getElem?_cons_succ, List.getElem?_cons_zero]; rfl)
              case hq95 => exact fun _ _ _ h => h
              case hw95 => exact Or.inr ⟨by rfl, rfl⟩
              (try simp only [Act.put, List.setIfInBounds_toArray, List.set_cons_zero, List.set_cons_succ])
              refine wpAnyH_take (i := 47) (oi := ?oo96) (v := undef) ?hi96 (by kernel_rfl) (by kernel_rfl) (by kernel_rfl) ?hq96 ?hw96 (by assumption) ?rest96
              case hi96 => (simp only [List.getElem?_toArray, List.getElem?_cons_succ, List.getElem?_cons_zero]; rfl)
              case hq96 => exact fun _ _ _ h => h
              case hw96 => exact Or.inr ⟨by rfl, rfl⟩
              (try simp only [Act.put, List.setIfInBounds_toArray, List.set_cons_zero, List.set_cons_succ])
              refine wpAnyH_take (i := 48) (oi := ?oo97) (v := undef) ?hi97 (by kernel_rfl) (by kernel_rfl) (by kernel_rfl) ?hq97 ?hw97 (by assumption) ?rest97
              case hi97 => (simp only [List.getElem?_toArray, List.getElem?_cons_succ, List.getElem?_cons_zero]; rfl)
              case hq97 => exact fun _ _ _ h => h
              case hw97 => exact Or.inr ⟨by rfl, rfl⟩
              (try simp only [Act.put, List.setIfInBounds_toArray, List.set_cons_zero, List.set_cons_succ])
              refine wpAnyH_take (i := 49) (oi := ?oo98) (v := undef) ?hi98 (by kernel_rfl) (by kernel_rfl) (by kernel_rfl) ?hq98 ?hw98 (by assumption) ?rest98
              case hi98 => (simp only [List.getElem?_toArray, List.getElem?_cons_succ, List.getElem?_cons_zero]; rfl)
              case hq98 => exact fun _ _ _ h => h
              case hw98 => exact Or.inr ⟨by rfl, rfl⟩
              (try simp only [Act.put, List.setIfInBounds_toArray, List.set_cons_zero, List.set_cons_succ])
              refine wpAnyH_ready (rs := [50]) (by kernel_rfl) (by simp) ?_
              refine AllReadyH.cons (o := _) rfl (fun K hK => ?_) AllReadyH.nil
              go_simp
              refine hK.out _ _ (by (try dsimp only); first | exact hHeld | (first | (with_reducible exact hs0) | (with_reducible exact hs1) | (with_reducible exact hs2) | (simp only [World.cell?_drew]; first | (with_reducible exact hs0) | (with_reducible exact hs1) | (with_reducible exact hs2)))) (fun hHeld => ?_)
              clear hK K
              (try simp only [Act.put, List.setIfInBounds_toArray, List.set_cons_zero, List.set_cons_succ])
              refine wpAnyH_take (i := 51) (oi := ?oo99) (v := undef) ?hi99 (by kernel_rfl) (by kernel_rfl) (by kernel_rfl) ?hq99 ?hw99 (by assumption) ?rest99
              case hi99 => (simp only [List.getElem?_toArray, List.getElem?_cons_succ, List.getElem?_cons_zero]; rfl)
              case hq99 => exact fun _ _ _ h => h
              case hw99 => exact Or.inr ⟨by rfl, rfl⟩
              (try simp only [Act.put, List.setIfInBounds_toArray, List.set_cons_zero, List.set_cons_succ])
              refine wpAnyH_take (i := 52) (oi := ?oo100) (v := ?vv100) ?hi100 (by kernel_rfl) (by kernel_rfl) (by kernel_rfl) ?hq100 ?hw100 (by assumption) ?rest100
              case hi100 => (simp only [List.getElem?_toArray, List.getElem?_cons_succ, List.getElem?_cons_zero]; rfl)
              case hq100 => exact fun _ _ _ h => h
              case hw100 => (refine Or.inl ⟨by rfl, ?_⟩; intro w hSw; (try dsimp only at hSw); go_simp; try with_reducible rfl)
              (try simp only [Act.put, List.setIfInBounds_toArray, List.set_cons_zero, List.set_cons_succ])
              refine wpAnyH_done (by kernel_rfl) ?_ _
              go_wp2_with fail
              go_ret
              exact ⟨ret_b ((capB_not _ _).2 HNE.out).symm, by (repeat (first | with_reducible assumption | with_reducible exact Below.refl _ _ | with_reducible refine Below.drew ?_ | with_reducible refine belowDrewN ?_ _ | ((with_reducible refine Below.setCell ?_ ?_ _); rotate_left; focus (first | omega | (simp; done) | (simp; omega))) | ((with_reducible refine Below.alloc ?_ ?_ _); rotate_left; focus (first | omega | (simp; done) | (simp; omega))) | ((with_reducible refine Below.trans ?_ (Below.mono hb1 ?_)); rotate_left; focus (first | omega | (simp; done) | (simp; omega))) | ((with_reducible refine Below.trans ?_ (Below.mono hb2 ?_)); rotate_left; focus (first | omega | (simp; done) | (simp; omega)))))⟩
          · have hN : ∀ W, (SynOwn 33 xa1 xc1 x1 a1 cap1 ms1).In W → (SynOwn 33 xa1' xc1' x1' a1' cap1' ms1').In W → Calls Try.prog 26 #[.agg #[.int .i64 k1, .int .i64 n1, .string s1, .slice xa1 x1.length xc1, .slice a1 ms1.length cap1], .agg #[.int .i64 k1', .int .i64 n1', .string s1', .slice xa1' x1'.length xc1', .slice a1' ms1'.length cap1']] W (Ret (.bool true) W) := fun W h1 h2 => by
              have h := sEqualSyntax_calls ds1 k1 n1 s1 x1 xa1 xc1 a1 cap1 ms1 k1' n1' s1' x1' xa1' xc1' a1' cap1' ds1' ms1' W hi1.is h1 hi1'.is h2
              rw [(eqSB_iff _ _).2 heN] at h
              exact h
            have hD : (D != D') = true := by simp [heD]
            have hne := ne_of_get hd hd' (fun e => heD (by injection e))
            have HI1 := Lib.hid hi1; clear hi1; have HI2 := Lib.hid hi2; clear hi2; have HI3 := Lib.hid hi3; clear hi3; have HIN3 := Lib.hid hin3; clear hin3; have HI1' := Lib.hid hi1'; clear hi1'; have HI2' := Lib.hid hi2'; clear hi2'; have HI3' := Lib.hid hi3'; clear hi3'; have HIN3' := Lib.hid hin3'; clear hin3'; have HD := Lib.hid hd; clear hd; have HD' := Lib.hid hd'; clear hd'; have HPRE := Lib.hid hpre; clear hpre; have HEN := Lib.hid heN; clear heN; have HED := Lib.hid heD; clear heD; have HN := Lib.hid hN; clear hN; have HNE := Lib.hid hne; clear hne
            go_wp2_with fail
            refine wp_region_held_drew (S := fun w' => (w'.cell? ⟨b, off + j * 12, none⟩ = some (.int .i64 k1) ∧ w'.cell? ⟨b, off + j * 12 + 1, none⟩ = some (.int .i64 n1) ∧ w'.cell? ⟨b, off + j * 12 + 2, none⟩ = some (.string s1) ∧ w'.cell? ⟨b, off + j * 12 + 3, none⟩ = some (.slice xa1 x1.length xc1) ∧ w'.cell? ⟨b, off + j * 12 + 4, none⟩ = some (.slice a1 ms1.length cap1) ∧ w'.cell? ⟨b, off + j * 12 + 5, none⟩ = some (.int .i64 D) ∧ w'.cell? ⟨b, off + j * 12 + 6, none⟩ = some (.int .i64 k2) ∧ w'.cell? ⟨b, off + j * 12 + 7, none⟩ = some (.int .i64 n2) ∧ w'.cell? ⟨b, off + j * 12 + 8, none⟩ = some (.string s2) ∧ w'.cell? ⟨b, off + j * 12 + 9, none⟩ = some (.slice xa2 x2.length xc2) ∧ w'.cell? ⟨b, off + j * 12 + 10, none⟩ = some (.slice a2 ms2.length cap2) ∧ w'.cell? ⟨b, off + j * 12 + 11, none⟩ = some (.slice a3 ms3.length cap3) ∧ w'.cell? ⟨b', off' + j * 12, none⟩ = some (.int .i64 k1') ∧ w'.cell? ⟨b', off' + j * 12 + 1, none⟩ = some (.int .i64 n1') ∧ w'.cell? ⟨b', off' + j * 12 + 2, none⟩ = some (.string s1') ∧ w'.cell? ⟨b', off' + j * 12 + 3, none⟩ = some (.slice xa1' x1'.length xc1') ∧ w'.cell? ⟨b', off' + j * 12 + 4, none⟩ = some (.slice a1' ms1'.length cap1') ∧ w'.cell? ⟨b', off' + j * 12 + 5, none⟩ = some (.int .i64 D') ∧ w'.cell? ⟨b', off' + j * 12 + 6, none⟩ = some (.int .i64 k2') ∧ w'.cell? ⟨b', off' + j * 12 + 7, none⟩ = some (.int .i64 n2') ∧ w'.cell? ⟨b', off' + j * 12 + 8, none⟩ = some (.string s2') ∧ w'.cell? ⟨b', off' + j * 12 + 9, none⟩ = some (.slice xa2' x2'.length xc2') ∧ w'.cell? ⟨b', off' + j * 12 + 10, none⟩ = some (.slice a2' ms2'.length cap2') ∧ w'.cell? ⟨b', off' + j * 12 + 11, none⟩ = some (.slice a3' ms3'.length cap3'))) (by kernel_rfl) ?_ (fun hHeld => ?_)
            · (first | (with_reducible exact hs0) | (with_reducible exact hs1) | (simp only [World.cell?_drew]; first | (with_reducible exact hs0) | (with_reducible exact hs1)))
            refine wpAnyH_take (i := 0) (oi := ?oo101) (v := ?vv101) ?hi101 (by kernel_rfl) (by kernel_rfl) (by kernel_rfl) ?hq101 ?hw101 (by assumption) ?rest101
            case hi101 => (simp only [List.getElem?_toArray, List.getElem?_cons_succ, List.getElem?_cons_zero]; rfl)
            case hq101 => exact fun _ _ _ h => h
            case hw101 => (refine Or.inl ⟨by rfl, ?_⟩; intro w hSw; (try dsimp only at hSw); go_simp; try with_reducible rfl)
            (try simp only [Act.put, List.setIfInBounds_toArray, List.set_cons_zero, List.set_cons_succ])
            refine wpAnyH_take (i := 1) (oi := ?oo102) (v := ?vv102) ?hi102 (by kernel_rfl) (by kernel_rfl) (by kernel_rfl) ?hq102 ?hw102 (by assumption) ?rest102
            case hi102 => (simp only [List.getElem?_toArray, List.getElem?_cons_succ, List.getElem?_cons_zero]; rfl)
            case hq102 => exact fun _ _ _ h => h
            case hw102 => (refine Or.inl ⟨by rfl, ?_⟩; intro w hSw; (try dsimp only at hSw); go_simp; try with_reducible rfl)
            (try simp only [Act.put, List.setIfInBounds_toArray, List.set_cons_zero, List.set_cons_succ])
            refine wpAnyH_take (i := 2) (oi := ?oo103) (v := ?vv103) ?hi103 (by kernel_rfl) (by kernel_rfl) (by kernel_rfl) ?hq103 ?hw103 (by assumption) ?rest103
            case hi103 => (simp only [List.getElem?_toArray, List.getElem?_cons_succ, List.getElem?_cons_zero]; rfl)
            case hq103 => exact fun _ _ _ h => h
            case hw103 => (refine Or.inl ⟨by rfl, ?_⟩; intro w hSw; (try dsimp only at hSw); go_simp; try with_reducible rfl)
            (try simp only [Act.put, List.setIfInBounds_toArray, List.set_cons_zero, List.set_cons_succ])
            refine wpAnyH_take (i := 3) (oi := ?oo104) (v := ?vv104) ?hi104 (by kernel_rfl) (by kernel_rfl) (by kernel_rfl) ?hq104 ?hw104 (by assumption) ?rest104
            case hi104 => (simp only [List.getElem?_toArray, List.getElem?_cons_succ, List.getElem?_cons_zero]; rfl)
            case hq104 => exact fun _ _ _ h => h
            case hw104 => (refine Or.inl ⟨by rfl, ?_⟩; intro w hSw; (try dsimp only at hSw); go_simp; try with_reducible rfl)
            (try simp only [Act.put, List.setIfInBounds_toArray, List.set_cons_zero, List.set_cons_succ])
            refine wpAnyH_take (i := 4) (oi := ?oo105) (v := ?vv105) ?hi105 (by kernel_rfl) (by kernel_rfl) (by kernel_rfl) ?hq105 ?hw105 (by assumption) ?rest105
            case hi105 => (simp only [List.getElem?_toArray, List.getElem?_cons_succ, List.getElem?_cons_zero]; rfl)
            case hq105 => exact fun _ _ _ h => h
            case hw105 => (refine Or.inl ⟨by rfl, ?_⟩; intro w hSw; (try dsimp only at hSw); go_simp; try with_reducible rfl)
            (try simp only [Act.put, List.setIfInBounds_toArray, List.set_cons_zero, List.set_cons_succ])
            refine wpAnyH_take (i := 5) (oi := ?oo106) (v := ?vv106) ?hi106 (by kernel_rfl) (by kernel_rfl) (by kernel_rfl) ?hq106 ?hw106 (by assumption) ?rest106
            case hi106 => (simp only [List.getElem?_toArray, List.getElem?_cons_succ, List.getElem?_cons_zero]; rfl)
            case hq106 => exact fun _ _ _ h => h
            case hw106 => (refine Or.inl ⟨by rfl, ?_⟩; intro w hSw; (try dsimp only at hSw); go_simp; try with_reducible rfl)
            (try simp only [Act.put, List.setIfInBounds_toArray, List.set_cons_zero, List.set_cons_succ])
            refine wpAnyH_take (i := 6) (oi := ?oo107) (v := ?vv107) ?hi107 (by kernel_rfl) (by kernel_rfl) (by kernel_rfl) ?hq107 ?hw107 (by assumption) ?rest107
            case hi107 => (simp only [List.getElem?_toArray, List.getElem?_cons_succ, List.getElem?_cons_zero]; rfl)
            case hq107 => exact fun _ _ _ h => h
            case hw107 => (refine Or.inl ⟨by rfl, ?_⟩; intro w hSw; (try dsimp only at hSw); go_simp; try with_reducible rfl)
            (try simp only [Act.put, List.setIfInBounds_toArray, List.set_cons_zero, List.set_cons_succ])
            refine wpAnyH_take (i := 7) (oi := ?oo108) (v := ?vv108) ?hi108 (by kernel_rfl) (by kernel_rfl) (by kernel_rfl) ?hq108 ?hw108 (by assumption) ?rest108
            case hi108 => (simp only [List.getElem?_toArray, List.getElem?_cons_succ, List.getElem?_cons_zero]; rfl)
            case hq108 => exact fun _ _ _ h => h
            case hw108 => (refine Or.inl ⟨by rfl, ?_⟩; intro w hSw; (try dsimp only at hSw); go_simp; try with_reducible rfl)
            (try simp only [Act.put, List.setIfInBounds_toArray, List.set_cons_zero, List.set_cons_succ])
            refine wpAnyH_take (i := 8) (oi := ?oo109) (v := ?vv109) ?hi109 (by kernel_rfl) (by kernel_rfl) (by kernel_rfl) ?hq109 ?hw109 (by assumption) ?rest109
            case hi109 => (simp only [List.getElem?_toArray, List.getElem?_cons_succ, List.getElem?_cons_zero]; rfl)
            case hq109 => exact fun _ _ _ h => h
            case hw109 => (refine Or.inl ⟨by rfl, ?_⟩; intro w hSw; (try dsimp only at hSw); go_simp; try with_reducible rfl)
            (try simp only [Act.put, List.setIfInBounds_toArray, List.set_cons_zero, List.set_cons_succ])
            refine wpAnyH_take (i := 9) (oi := ?oo110) (v := ?vv110) ?hi110 (by kernel_rfl) (by kernel_rfl) (by kernel_rfl) ?hq110 ?hw110 (by assumption) ?rest110
            case hi110 => (simp only [List.getElem?_toArray, List.getElem?_cons_succ, List.getElem?_cons_zero]; rfl)
            case hq110 => exact fun _ _ _ h => h
            case hw110 => (refine Or.inl ⟨by rfl, ?_⟩; intro w hSw; (try dsimp only at hSw); go_simp; try with_reducible rfl)
            (try simp only [Act.put, List.setIfInBounds_toArray, List.set_cons_zero, List.set_cons_succ])
            refine wpAnyH_ready (rs := [10]) (by kernel_rfl) (by simp) ?_
            refine AllReadyH.cons (o := _) rfl (fun K hK => ?_) AllReadyH.nil
            go_simp
            go_at_call 26; (with_reducible refine (HN.out _ (HI1.out.at_ (by (repeat (first | with_reducible assumption | with_reducible exact Below.refl _ _ | with_reducible refine Below.drew ?_ | with_reducible refine belowDrewN ?_ _ | ((with_reducible refine Below.setCell ?_ ?_ _); rotate_left; focus (first | omega | (simp; done) | (simp; omega))) | ((with_reducible refine Below.alloc ?_ ?_ _); rotate_left; focus (first | omega | (simp; done) | (simp; omega))) | ((with_reducible refine Below.trans ?_ (Below.mono hb1 ?_)); rotate_left; focus (first | omega | (simp; done) | (simp; omega))))))) (HI1'.out.at_ (by (repeat (first | with_reducible assumption | with_reducible exact Below.refl _ _ | with_reducible refine Below.drew ?_ | with_reducible refine belowDrewN ?_ _ | ((with_reducible refine Below.setCell ?_ ?_ _); rotate_left; focus (first | omega | (simp; done) | (simp; omega))) | ((with_reducible refine Below.alloc ?_ ?_ _); rotate_left; focus (first | omega | (simp; done) | (simp; omega))) | ((with_reducible refine Below.trans ?_ (Below.mono hb1 ?_)); rotate_left; focus (first | omega | (simp; done) | (simp; omega)))))))).mono ?_); rintro e w1 ⟨rfl, hb1⟩; obtain ⟨hc1, hf1⟩ := bcell hb1; have hz1 := hb1.size; (try simp only [World.size_alloc, World.size_setCell, World.size_drew, sizeDrewN] at hz1 hc1 hf1); have hp1 : b < w1.heap.size := (by omega); have hp1' : b' < w1.heap.size := (by omega); have hs1 : (w1.cell? ⟨b, off + j * 12, none⟩ = some (.int .i64 k1) ∧ w1.cell? ⟨b, off + j * 12 + 1, none⟩ = some (.int .i64 n1) ∧ w1.cell? ⟨b, off + j * 12 + 2, none⟩ = some (.string s1) ∧ w1.cell? ⟨b, off + j * 12 + 3, none⟩ = some (.slice xa1 x1.length xc1) ∧ w1.cell? ⟨b, off + j * 12 + 4, none⟩ = some (.slice a1 ms1.length cap1) ∧ w1.cell? ⟨b, off + j * 12 + 5, none⟩ = some (.int .i64 D) ∧ w1.cell? ⟨b, off + j * 12 + 6, none⟩ = some (.int .i64 k2) ∧ w1.cell? ⟨b, off + j * 12 + 7, none⟩ = some (.int .i64 n2) ∧ w1.cell? ⟨b, off + j * 12 + 8, none⟩ = some (.string s2) ∧ w1.cell? ⟨b, off + j * 12 + 9, none⟩ = some (.slice xa2 x2.length xc2) ∧ w1.cell? ⟨b, off + j * 12 + 10, none⟩ = some (.slice a2 ms2.length cap2) ∧ w1.cell? ⟨b, off + j * 12 + 11, none⟩ = some (.slice a3 ms3.length cap3) ∧ w1.cell? ⟨b', off' + j * 12, none⟩ = some (.int .i64 k1') ∧ w1.cell? ⟨b', off' + j * 12 + 1, none⟩ = some (.int .i64 n1') ∧ w1.cell? ⟨b', off' + j * 12 + 2, none⟩ = some (.string s1') ∧ w1.cell? ⟨b', off' + j * 12 + 3, none⟩ = some (.slice xa1' x1'.length xc1') ∧ w1.cell? ⟨b', off' + j * 12 + 4, none⟩ = some (.slice a1' ms1'.length cap1') ∧ w1.cell? ⟨b', off' + j * 12 + 5, none⟩ = some (.int .i64 D') ∧ w1.cell? ⟨b', off' + j * 12 + 6, none⟩ = some (.int .i64 k2') ∧ w1.cell? ⟨b', off' + j * 12 + 7, none⟩ = some (.int .i64 n2') ∧ w1.cell? ⟨b', off' + j * 12 + 8, none⟩ = some (.string s2') ∧ w1.cell? ⟨b', off' + j * 12 + 9, none⟩ = some (.slice xa2' x2'.length xc2') ∧ w1.cell? ⟨b', off' + j * 12 + 10, none⟩ = some (.slice a2' ms2'.length cap2') ∧ w1.cell? ⟨b', off' + j * 12 + 11, none⟩ = some (.slice a3' ms3'.length cap3')) := (by first | (simp (disch := omega) only [hc1, hs0, and_self, go_sem, World.cell?_drew]; done))
            refine hK.out _ _ (by (try dsimp only); first | exact hs1 | (first | (with_reducible exact hs0) | (with_reducible exact hs1) | (simp only [World.cell?_drew]; first | (with_reducible exact hs0) | (with_reducible exact hs1)))) (fun hHeld => ?_)
            clear hK K
            (try simp only [Act.put, List.setIfInBounds_toArray, List.set_cons_zero, List.set_cons_succ])
            refine wpAnyH_take (i := 11) (oi := ?oo111) (v := ?vv111) ?hi111 (by kernel_rfl) (by kernel_rfl) (by kernel_rfl) ?hq111 ?hw111 (by assumption) ?rest111
            case hi111 => (simp only [List.getElem?_toArray, List.getElem?_cons_succ, List.getElem?_cons_zero]; rfl)
            case hq111 => exact fun _ _ _ h => h
            case hw111 => (refine Or.inl ⟨by rfl, ?_⟩; intro w hSw; (try dsimp only at hSw); go_simp; try with_reducible rfl)
            (try simp only [Act.put, List.setIfInBounds_toArray, List.set_cons_zero, List.set_cons_succ])
            refine wpAnyH_take (i := 12) (oi := ?oo112) (v := ?vv112) ?hi112 (by kernel_rfl) (by kernel_rfl) (by kernel_rfl) ?hq112 ?hw112 (by assumption) ?rest112
            case hi112 => (simp only [List.getElem?_toArray, List.getElem?_cons_succ, List.getElem?_cons_zero]; rfl)
            case hq112 => exact fun _ _ _ h => h
            case hw112 => (refine Or.inl ⟨by rfl, ?_⟩; intro w hSw; (try dsimp only at hSw); go_simp; try with_reducible rfl)
            (try simp only [Act.put, List.setIfInBounds_toArray, List.set_cons_zero, List.set_cons_succ])
            refine wpAnyH_take (i := 13) (oi := ?oo113) (v := ?vv113) ?hi113 (by kernel_rfl) (by kernel_rfl) (by kernel_rfl) ?hq113 ?hw113 (by assumption) ?rest113
            case hi113 => (simp only [List.getElem?_toArray, List.getElem?_cons_succ, List.getElem?_cons_zero]; rfl)
            case hq113 => exact fun _ _ _ h => h
            case hw113 => (refine Or.inl ⟨by rfl, ?_⟩; intro w hSw; (try dsimp only at hSw); go_simp; try with_reducible rfl)
            (try simp only [Act.put, List.setIfInBounds_toArray, List.set_cons_zero, List.set_cons_succ])
            refine wpAnyH_take (i := 14) (oi := ?oo114) (v := ?vv114) ?hi114 (by kernel_rfl) (by kernel_rfl) (by kernel_rfl) ?hq114 ?hw114 (by assumption) ?rest114
            case hi114 => (simp only [List.getElem?_toArray, List.getElem?_cons_succ, List.getElem?_cons_zero]; rfl)
            case hq114 => exact fun _ _ _ h => h
            case hw114 => (refine Or.inl ⟨by rfl, ?_⟩; intro w hSw; (try dsimp only at hSw); go_simp; try with_reducible rfl)
            (try simp only [Act.put, List.setIfInBounds_toArray, List.set_cons_zero, List.set_cons_succ])
            refine wpAnyH_take (i := 15) (oi := ?oo115) (v := ?vv115) ?hi115 (by kernel_rfl) (by kernel_rfl) (by kernel_rfl) ?hq115 ?hw115 (by assumption) ?rest115
            case hi115 => (simp only [List.getElem?_toArray, List.getElem?_cons_succ, List.getElem?_cons_zero]; rfl)
            case hq115 => exact fun _ _ _ h => h
            case hw115 => (refine Or.inl ⟨by rfl, ?_⟩; intro w hSw; (try dsimp only at hSw); go_simp; try with_reducible rfl)
            (try simp only [Act.put, List.setIfInBounds_toArray, List.set_cons_zero, List.set_cons_succ])
            refine wpAnyH_take (i := 16) (oi := ?oo116) (v := ?vv116) ?hi116 (by kernel_rfl) (by kernel_rfl) (by kernel_rfl) ?hq116 ?hw116 (by assumption) ?rest116
            case hi116 => (simp only [List.getElem?_toArray, List.getElem?_cons_succ, List.getElem?_cons_zero]; rfl)
            case hq116 => exact fun _ _ _ h => h
            case hw116 => (refine Or.inl ⟨by rfl, ?_⟩; intro w hSw; (try dsimp only at hSw); go_simp; try with_reducible rfl)
            (try simp only [Act.put, List.setIfInBounds_toArray, List.set_cons_zero, List.set_cons_succ])
            refine wpAnyH_take (i := 17) (oi := ?oo117) (v := ?vv117) ?hi117 (by kernel_rfl) (by kernel_rfl) (by kernel_rfl) ?hq117 ?hw117 (by assumption) ?rest117
            case hi117 => (simp only [List.getElem?_toArray, List.getElem?_cons_succ, List.getElem?_cons_zero]; rfl)
            case hq117 => exact fun _ _ _ h => h
            case hw117 => (refine Or.inl ⟨by rfl, ?_⟩; intro w hSw; (try dsimp only at hSw); go_simp; try with_reducible rfl)
            (try simp only [Act.put, List.setIfInBounds_toArray, List.set_cons_zero, List.set_cons_succ])
            refine wpAnyH_take (i := 18) (oi := ?oo118) (v := ?vv118) ?hi118 (by kernel_rfl) (by kernel_rfl) (by kernel_rfl) ?hq118 ?hw118 (by assumption) ?rest118
            case hi118 => (simp only [List.getElem?_toArray, List.getElem?_cons_succ, List.getElem?_cons_zero]; rfl)
            case hq118 => exact fun _ _ _ h => h
            case hw118 => (refine Or.inl ⟨by rfl, ?_⟩; intro w hSw; (try dsimp only at hSw); go_simp; try with_reducible rfl)
            (try simp only [Act.put, List.setIfInBounds_toArray, List.set_cons_zero, List.set_cons_succ])
            refine wpAnyH_take (i := 19) (oi := ?oo119) (v := ?vv119) ?hi119 (by kernel_rfl) (by kernel_rfl) (by kernel_rfl) ?hq119 ?hw119 (by assumption) ?rest119
            case hi119 => (simp only [List.getElem?_toArray, List.getElem?_cons_succ, List.getElem?_cons_zero]; rfl)
            case hq119 => exact fun _ _ _ h => h
            case hw119 => (refine Or.inl ⟨by rfl, ?_⟩; intro w hSw; (try dsimp only at hSw); go_simp; try with_reducible rfl)
            (try simp only [Act.put, List.setIfInBounds_toArray, List.set_cons_zero, List.set_cons_succ])
            refine wpAnyH_take (i := 20) (oi := ?oo120) (v := ?vv120) ?hi120 (by kernel_rfl) (by kernel_rfl) (by kernel_rfl) ?hq120 ?hw120 (by assumption) ?rest120
            case hi120 => (simp only [List.getElem?_toArray, List.getElem?_cons_succ, List.getElem?_cons_zero]; rfl)
            case hq120 => exact fun _ _ _ h => h
            case hw120 => (refine Or.inl ⟨by rfl, ?_⟩; intro w hSw; (try dsimp only at hSw); go_simp; try with_reducible rfl)
            (try simp only [Act.put, List.setIfInBounds_toArray, List.set_cons_zero, List.set_cons_succ])
            refine wpAnyH_take (i := 21) (oi := ?oo121) (v := ?vv121) ?hi121 (by kernel_rfl) (by kernel_rfl) (by kernel_rfl) ?hq121 ?hw121 (by assumption) ?rest121
            case hi121 => (simp only [List.getElem?_toArray, List.getElem?_cons_succ, List.getElem?_cons_zero]; rfl)
            case hq121 => exact fun _ _ _ h => h
            case hw121 => (refine Or.inl ⟨by rfl, ?_⟩; intro w hSw; (try dsimp only at hSw); go_simp; try with_reducible rfl)
            (try simp only [Act.put, List.setIfInBounds_toArray, List.set_cons_zero, List.set_cons_succ])
            refine wpAnyH_take (i := 22) (oi := ?oo122) (v := ?vv122) ?hi122 (by kernel_rfl) (by kernel_rfl) (by kernel_rfl) ?hq122 ?hw122 (by assumption) ?rest122
            case hi122 => (simp only [List.getElem?_toArray, List.getElem?_cons_succ, List.getElem?_cons_zero]; rfl)
            case hq122 => exact fun _ _ _ h => h
            case hw122 => (refine Or.inl ⟨by rfl, ?_⟩; intro w hSw; (try dsimp only at hSw); go_simp; try with_reducible rfl)
            (try simp only [Act.put, List.setIfInBounds_toArray, List.set_cons_zero, List.set_cons_succ])
            refine wpAnyH_take (i := 23) (oi := ?oo123) (v := ?vv123) ?hi123 (by kernel_rfl) (by kernel_rfl) (by kernel_rfl) ?hq123 ?hw123 (by assumption) ?rest123
            case hi123 => (simp only [List.getElem?_toArray, List.getElem?_cons_succ, List.getElem?_cons_zero]; rfl)
            case hq123 => exact fun _ _ _ h => h
            case hw123 => (refine Or.inl ⟨by rfl, ?_⟩; intro w hSw; (try dsimp only at hSw); go_simp; try with_reducible rfl)
            (try simp only [Act.put, List.setIfInBounds_toArray, List.set_cons_zero, List.set_cons_succ])
            refine wpAnyH_take (i := 24) (oi := ?oo124) (v := ?vv124) ?hi124 (by kernel_rfl) (by kernel_rfl) (by kernel_rfl) ?hq124 ?hw124 (by assumption) ?rest124
            case hi124 => (simp only [List.getElem?_toArray, List.getElem?_cons_succ, List.getElem?_cons_zero]; rfl)
            case hq124 => exact fun _ _ _ h => h
            case hw124 => (refine Or.inl ⟨by rfl, ?_⟩; intro w hSw; (try dsimp only at hSw); go_simp; try with_reducible rfl)
            (try simp only [Act.put, List.setIfInBounds_toArray, List.set_cons_zero, List.set_cons_succ])
            refine wpAnyH_take (i := 25) (oi := ?oo125) (v := ?vv125) ?hi125 (by kernel_rfl) (by kernel_rfl) (by kernel_rfl) ?hq125 ?hw125 (by assumption) ?rest125
            case hi125 => (simp only [List.getElem?_toArray, List.getElem?_cons_succ, List.getElem?_cons_zero]; rfl)
            case hq125 => exact fun _ _ _ h => h
            case hw125 => (refine Or.inl ⟨by rfl, ?_⟩; intro w hSw; (try dsimp only at hSw); go_simp; try with_reducible rfl)
            (try simp only [Act.put, List.setIfInBounds_toArray, List.set_cons_zero, List.set_cons_succ])
            refine wpAnyH_take (i := 26) (oi := ?oo126) (v := undef) ?hi126 (by kernel_rfl) (by kernel_rfl) (by kernel_rfl) ?hq126 ?hw126 (by assumption) ?rest126
            case hi126 => (simp only [List.getElem?_toArray, List.getElem?_cons_succ, List.getElem?_cons_zero]; rfl)
            case hq126 => exact fun _ _ _ h => h
            case hw126 => exact Or.inr ⟨by rfl, rfl⟩
            (try simp only [Act.put, List.setIfInBounds_toArray, List.set_cons_zero, List.set_cons_succ])
            refine wpAnyH_take (i := 27) (oi := ?oo127) (v := undef) ?hi127 (by kernel_rfl) (by kernel_rfl) (by kernel_rfl) ?hq127 ?hw127 (by assumption) ?rest127
            case hi127 => (simp only [List.getElem?_toArray, List.getElem?_cons_succ, List.getElem?_cons_zero]; rfl)
            case hq127 => exact fun _ _ _ h => h
            case hw127 => exact Or.inr ⟨by rfl, rfl⟩
            (try simp only [Act.put, List.setIfInBounds_toArray, List.set_cons_zero, List.set_cons_succ])
            refine wpAnyH_take (i := 28) (oi := ?oo128) (v := undef) ?hi128 (by kernel_rfl) (by kernel_rfl) (by kernel_rfl) ?hq128 ?hw128 (by assumption) ?rest128
            case hi128 => (simp only [List.getElem?_toArray, List.getElem?_cons_succ, List.getElem?_cons_zero]; rfl)
            case hq128 => exact fun _ _ _ h => h
            case hw128 => exact Or.inr ⟨by rfl, rfl⟩
            (try simp only [Act.put, List.setIfInBounds_toArray, List.set_cons_zero, List.set_cons_succ])
            refine wpAnyH_take (i := 29) (oi := ?oo129) (v := undef) ?hi129 (by kernel_rfl) (by kernel_rfl) (by kernel_rfl) ?hq129 ?hw129 (by assumption) ?rest129
            case hi129 => (simp only [List.getElem?_toArray, List.getElem?_cons_succ, List.getElem?_cons_zero]; rfl)
            case hq129 => exact fun _ _ _ h => h
            case hw129 => exact Or.inr ⟨by rfl, rfl⟩
            (try simp only [Act.put, List.setIfInBounds_toArray, List.set_cons_zero, List.set_cons_succ])
            refine wpAnyH_take (i := 30) (oi := ?oo130) (v := undef) ?hi130 (by kernel_rfl) (by kernel_rfl) (by kernel_rfl) ?hq130 ?hw130 (by assumption) ?rest130
            case hi130 => (simp only [List.getElem?_toArray, List.getElem?_cons_succ, List.getElem?_cons_zero]; rfl)
            case hq130 => exact fun _ _ _ h => h
            case hw130 => exact Or.inr ⟨by rfl, rfl⟩
            (try simp only [Act.put, List.setIfInBounds_toArray, List.set_cons_zero, List.set_cons_succ])
            refine wpAnyH_take (i := 31) (oi := ?oo131) (v := undef) ?hi131 (by kernel_rfl) (by kernel_rfl) (by kernel_rfl) ?hq131 ?hw131 (by assumption) ?rest131
            case hi131 => (simp only [List.getElem?_toArray, List.getElem?_cons_succ, List.getElem?_cons_zero]; rfl)
            case hq131 => exact fun _ _ _ h => h
            case hw131 => exact Or.inr ⟨by rfl, rfl⟩
            (try simp only [Act.put, List.setIfInBounds_toArray, List.set_cons_zero, List.set_cons_succ])
            refine wpAnyH_take (i := 32) (oi := ?oo132) (v := undef) ?hi132 (by kernel_rfl) (by kernel_rfl) (by kernel_rfl) ?hq132 ?hw132 (by assumption) ?rest132
            case hi132 => (simp only [List.getElem?_toArray, List.getElem?_cons_succ, List.getElem?_cons_zero]; rfl)
            case hq132 => exact fun _ _ _ h => h
            case hw132 => exact Or.inr ⟨by rfl, rfl⟩
            (try simp only [Act.put, List.setIfInBounds_toArray, List.set_cons_zero, List.set_cons_succ])
            refine wpAnyH_take (i := 33) (oi := ?oo133) (v := undef) ?hi133 (by kernel_rfl) (by kernel_rfl) (by kernel_rfl) ?hq133 ?hw133 (by assumption) ?rest133
            case hi133 => (simp only [List.getElem?_toArray, List.getElem?_cons_succ, List.getElem?_cons_zero]; rfl)
            case hq133 => exact fun _ _ _ h => h
            case hw133 => exact Or.inr ⟨by rfl, rfl⟩
            (try simp only [Act.put, List.setIfInBounds_toArray, List.set_cons_zero, List.set_cons_succ])
            refine wpAnyH_take (i := 34) (oi := ?oo134) (v := undef) ?hi134 (by kernel_rfl) (by kernel_rfl) (by kernel_rfl) ?hq134 ?hw134 (by assumption) ?rest134
            case hi134 => (simp only [List.getElem?_toArray, List.getElem?_cons_succ, List.getElem?_cons_zero]; rfl)
            case hq134 => exact fun _ _ _ h => h
            case hw134 => exact Or.inr ⟨by rfl, rfl⟩
            (try simp only [Act.put, List.setIfInBounds_toArray, List.set_cons_zero, List.set_cons_succ])
            refine wpAnyH_take (i := 35) (oi := ?oo135) (v := undef) ?hi135 (by kernel_rfl) (by kernel_rfl) (by kernel_rfl) ?hq135 ?hw135 (by assumption) ?rest135
            case hi135 => (simp only [List.getElem?_toArray, List.getElem?_cons_succ, List.getElem?_cons_zero]; rfl)
            case hq135 => exact fun _ _ _ h => h
            case hw135 => exact Or.inr ⟨by rfl, rfl⟩
            (try simp only [Act.put, List.setIfInBounds_toArray, List.set_cons_zero, List.set_cons_succ])
            refine wpAnyH_ready (rs := [36]) (by kernel_rfl) (by simp) ?_
            refine AllReadyH.cons (o := _) rfl (fun K hK => ?_) AllReadyH.nil
            go_simp
            refine hK.out _ _ (by (try dsimp only); first | exact hHeld | (first | (with_reducible exact hs0) | (with_reducible exact hs1) | (simp only [World.cell?_drew]; first | (with_reducible exact hs0) | (with_reducible exact hs1)))) (fun hHeld => ?_)
            clear hK K
            (try simp only [Act.put, List.setIfInBounds_toArray, List.set_cons_zero, List.set_cons_succ])
            refine wpAnyH_take (i := 37) (oi := ?oo136) (v := undef) ?hi136 (by kernel_rfl) (by kernel_rfl) (by kernel_rfl) ?hq136 ?hw136 (by assumption) ?rest136
            case hi136 => (simp only [List.getElem?_toArray, List.getElem?_cons_succ, List.getElem?_cons_zero]; rfl)
            case hq136 => exact fun _ _ _ h => h
            case hw136 => exact Or.inr ⟨by rfl, rfl⟩
            (try simp only [Act.put, List.setIfInBounds_toArray, List.set_cons_zero, List.set_cons_succ])
            refine wpAnyH_take (i := 38) (oi := ?oo137) (v := ?vv137) ?hi137 (by kernel_rfl) (by kernel_rfl) (by kernel_rfl) ?hq137 ?hw137 (by assumption) ?rest137
            case hi137 => (simp only [List.getElem?_toArray, List.getElem?_cons_succ, List.getElem?_cons_zero]; rfl)
            case hq137 => exact fun _ _ _ h => h
            case hw137 => (refine Or.inl ⟨by rfl, ?_⟩; intro w hSw; (try dsimp only at hSw); go_simp; try with_reducible rfl)
            (try simp only [Act.put, List.setIfInBounds_toArray, List.set_cons_zero, List.set_cons_succ])
            refine wpAnyH_take (i := 39) (oi := ?oo138) (v := ?vv138) ?hi138 (by kernel_rfl) (by kernel_rfl) (by kernel_rfl) ?hq138 ?hw138 (by assumption) ?rest138
            case hi138 => (simp only [List.getElem?_toArray, List.getElem?_cons_succ, List.getElem?_cons_zero]; rfl)
            case hq138 => exact fun _ _ _ h => h
            case hw138 => (refine Or.inl ⟨by rfl, ?_⟩; intro w hSw; (try dsimp only at hSw); go_simp; try with_reducible rfl)
            (try simp only [Act.put, List.setIfInBounds_toArray, List.set_cons_zero, List.set_cons_succ])
            refine wpAnyH_take (i := 40) (oi := ?oo139) (v := undef) ?hi139 (by kernel_rfl) (by kernel_rfl) (by kernel_rfl) ?hq139 ?hw139 (by assumption) ?rest139
            case hi139 => (simp only [List.getElem?_toArray, List.getElem?_cons_succ, List.getElem?_cons_zero]; rfl)
            case hq139 => exact fun _ _ _ h => h
            case hw139 => exact Or.inr ⟨by rfl, rfl⟩
            (try simp only [Act.put, List.setIfInBounds_toArray, List.set_cons_zero, List.set_cons_succ])
            refine wpAnyH_take (i := 41) (oi := ?oo140) (v := undef) ?hi140 (by kernel_rfl) (by kernel_rfl) (by kernel_rfl) ?hq140 ?hw140 (by assumption) ?rest140
            case hi140 => (simp only [List.getElem?_toArray, List.getElem?_cons_succ, List.getElem?_cons_zero]; rfl)
            case hq140 => exact fun _ _ _ h => h
            case hw140 => exact Or.inr ⟨by rfl, rfl⟩
            (try simp only [Act.put, List.setIfInBounds_toArray, List.set_cons_zero, List.set_cons_succ])
            refine wpAnyH_take (i := 42) (oi := ?oo141) (v := undef) ?hi141 (by kernel_rfl) (by kernel_rfl) (by kernel_rfl) ?hq141 ?hw141 (by assumption) ?rest141
            case hi141 => (simp only [List.getElem?_toArray, List.getElem?_cons_succ, List.getElem?_cons_zero]; rfl)
            case hq141 => exact fun _ _ _ h => h
            case hw141 => exact Or.inr ⟨by rfl, rfl⟩
            (try simp only [Act.put, List.setIfInBounds_toArray, List.set_cons_zero, List.set_cons_succ])
            refine wpAnyH_take (i := 43) (oi := ?oo142) (v := undef) ?hi142 (by kernel_rfl) (by kernel_rfl) (by kernel_rfl) ?hq142 ?hw142 (by assumption) ?rest142
            case hi142 => (simp only [List.getElem?_toArray, List.getElem?_cons_succ, List.getElem?_cons_zero]; rfl)
            case hq142 => exact fun _ _ _ h => h
            case hw142 => exact Or.inr ⟨by rfl, rfl⟩
            (try simp only [Act.put, List.setIfInBounds_toArray, List.set_cons_zero, List.set_cons_succ])
            refine wpAnyH_take (i := 44) (oi := ?oo143) (v := undef) ?hi143 (by kernel_rfl) (by kernel_rfl) (by kernel_rfl) ?hq143 ?hw143 (by assumption) ?rest143
            case hi143 => (simp only [List.getElem?_toArray, List.getElem?_cons_succ, List.getElem?_cons_zero]; rfl)
            case hq143 => exact fun _ _ _ h => h
            case hw143 => exact Or.inr ⟨by rfl, rfl⟩
            (try simp only [Act.put, List.setIfInBounds_toArray, List.set_cons_zero, List.set_cons_succ])
            refine wpAnyH_take (i := 45) (oi := ?oo144) (v := undef) ?hi144 (by kernel_rfl) (by kernel_rfl) (by kernel_rfl) ?hq144 ?hw144 (by assumption) ?rest144
            case hi144 => (simp only [List.getElem?_toArray, List.getElem?_cons_succ, List.getElem?_cons_zero]; rfl)
            case hq144 => exact fun _ _ _ h => h
            case hw144 => exact Or.inr ⟨by rfl, rfl⟩
            (try simp only [Act.put, List.setIfInBounds_toArray, List.set_cons_zero, List.set_cons_succ])
            refine wpAnyH_take (i := 46) (oi := ?oo145) (v := undef) ?hi145 (by kernel_rfl) (by kernel_rfl) (by kernel_rfl) ?hq145 ?hw145 (by assumption) ?rest145
            case hi145 => (simp only [List.getElem?_toArray, List.getElem?_cons_succ, List.getElem?_cons_zero]; rfl)
            case hq145 => exact fun _ _ _ h => h
            case hw145 => exact Or.inr ⟨by rfl, rfl⟩
            (try simp only [Act.put, List.setIfInBounds_toArray, List.set_cons_zero, List.set_cons_succ])
            refine wpAnyH_take (i := 47) (oi := ?oo146) (v := undef) ?hi146 (by kernel_rfl) (by kernel_rfl) (by kernel_rfl) ?hq146 ?hw146 (by assumption) ?rest146
            case hi146 => (simp only [List.getElem?_toArray, List.getElem?_cons_succ, List.getElem?_cons_zero]; rfl)
            case hq146 => exact fun _ _ _ h => h
            case hw146 => exact Or.inr ⟨by rfl, rfl⟩
            (try simp only [Act.put, List.setIfInBounds_toArray, List.set_cons_zero, List.set_cons_succ])
            refine wpAnyH_take (i := 48) (oi := ?oo147) (v := undef) ?hi147 (by kernel_rfl) (by kernel_rfl) (by kernel_rfl) ?hq147 ?hw147 (by assumption) ?rest147
            case hi147 => (simp only [List.getElem?_toArray, List.getElem?_cons_succ, List.getElem?_cons_zero]; rfl)
            case hq147 => exact fun _ _ _ h => h
            case hw147 => exact Or.inr ⟨by rfl, rfl⟩
            (try simp only [Act.put, List.setIfInBounds_toArray, List.set_cons_zero, List.set_cons_succ])
            refine wpAnyH_take (i := 49) (oi := ?oo148) (v := undef) ?hi148 (by kernel_rfl) (by kernel_rfl) (by kernel_rfl) ?hq148 ?hw148 (by assumption) ?rest148
            case hi148 => (simp only [List.getElem?_toArray, List.getElem?_cons_succ, List.getElem?_cons_zero]; rfl)
            case hq148 => exact fun _ _ _ h => h
            case hw148 => exact Or.inr ⟨by rfl, rfl⟩
            (try simp only [Act.put, List.setIfInBounds_toArray, List.set_cons_zero, List.set_cons_succ])
            refine wpAnyH_ready (rs := [50]) (by kernel_rfl) (by simp) ?_
            refine AllReadyH.cons (o := _) rfl (fun K hK => ?_) AllReadyH.nil
            go_simp
            refine hK.out _ _ (by (try dsimp only); first | exact hHeld | (first | (with_reducible exact hs0) | (with_reducible exact hs1) | (simp only [World.cell?_drew]; first | (with_reducible exact hs0) | (with_reducible exact hs1)))) (fun hHeld => ?_)
            clear hK K
            (try simp only [Act.put, List.setIfInBounds_toArray, List.set_cons_zero, List.set_cons_succ])
            refine wpAnyH_take (i := 51) (oi := ?oo149) (v := undef) ?hi149 (by kernel_rfl) (by kernel_rfl) (by kernel_rfl) ?hq149 ?hw149 (by assumption) ?rest149
            case hi149 => (simp only [List.getElem?_toArray, List.getElem?_cons_succ, List.getElem?_cons_zero]; rfl)
            case hq149 => exact fun _ _ _ h => h
            case hw149 => exact Or.inr ⟨by rfl, rfl⟩
            (try simp only [Act.put, List.setIfInBounds_toArray, List.set_cons_zero, List.set_cons_succ])
            refine wpAnyH_take (i := 52) (oi := ?oo150) (v := ?vv150) ?hi150 (by kernel_rfl) (by kernel_rfl) (by kernel_rfl) ?hq150 ?hw150 (by assumption) ?rest150
            case hi150 => (simp only [List.getElem?_toArray, List.getElem?_cons_succ, List.getElem?_cons_zero]; rfl)
            case hq150 => exact fun _ _ _ h => h
            case hw150 => (refine Or.inl ⟨by rfl, ?_⟩; intro w hSw; (try dsimp only at hSw); go_simp; try with_reducible rfl)
            (try simp only [Act.put, List.setIfInBounds_toArray, List.set_cons_zero, List.set_cons_succ])
            refine wpAnyH_done (by kernel_rfl) ?_ _
            go_wp2_with fail
            go_ret
            exact ⟨ret_b ((capB_not _ _).2 HNE.out).symm, by (repeat (first | with_reducible assumption | with_reducible exact Below.refl _ _ | with_reducible refine Below.drew ?_ | with_reducible refine belowDrewN ?_ _ | ((with_reducible refine Below.setCell ?_ ?_ _); rotate_left; focus (first | omega | (simp; done) | (simp; omega))) | ((with_reducible refine Below.alloc ?_ ?_ _); rotate_left; focus (first | omega | (simp; done) | (simp; omega))) | ((with_reducible refine Below.trans ?_ (Below.mono hb1 ?_)); rotate_left; focus (first | omega | (simp; done) | (simp; omega)))))⟩
        · have hN : ∀ W, (SynOwn 33 xa1 xc1 x1 a1 cap1 ms1).In W → (SynOwn 33 xa1' xc1' x1' a1' cap1' ms1').In W → Calls Try.prog 26 #[.agg #[.int .i64 k1, .int .i64 n1, .string s1, .slice xa1 x1.length xc1, .slice a1 ms1.length cap1], .agg #[.int .i64 k1', .int .i64 n1', .string s1', .slice xa1' x1'.length xc1', .slice a1' ms1'.length cap1']] W (Ret (.bool false) W) := fun W h1 h2 => by
            have h := sEqualSyntax_calls ds1 k1 n1 s1 x1 xa1 xc1 a1 cap1 ms1 k1' n1' s1' x1' xa1' xc1' a1' cap1' ds1' ms1' W hi1.is h1 hi1'.is h2
            rw [(eqSB_not _ _).2 heN] at h
            exact h
          have hne := ne_of_get hd hd' (fun e => heN (by injection e))
          have HI1 := Lib.hid hi1; clear hi1; have HI2 := Lib.hid hi2; clear hi2; have HI3 := Lib.hid hi3; clear hi3; have HIN3 := Lib.hid hin3; clear hin3; have HI1' := Lib.hid hi1'; clear hi1'; have HI2' := Lib.hid hi2'; clear hi2'; have HI3' := Lib.hid hi3'; clear hi3'; have HIN3' := Lib.hid hin3'; clear hin3'; have HD := Lib.hid hd; clear hd; have HD' := Lib.hid hd'; clear hd'; have HPRE := Lib.hid hpre; clear hpre; have HEN := Lib.hid heN; clear heN; have HN := Lib.hid hN; clear hN; have HNE := Lib.hid hne; clear hne
          go_wp2_with fail
          refine wp_region_held_drew (S := fun w' => (w'.cell? ⟨b, off + j * 12, none⟩ = some (.int .i64 k1) ∧ w'.cell? ⟨b, off + j * 12 + 1, none⟩ = some (.int .i64 n1) ∧ w'.cell? ⟨b, off + j * 12 + 2, none⟩ = some (.string s1) ∧ w'.cell? ⟨b, off + j * 12 + 3, none⟩ = some (.slice xa1 x1.length xc1) ∧ w'.cell? ⟨b, off + j * 12 + 4, none⟩ = some (.slice a1 ms1.length cap1) ∧ w'.cell? ⟨b, off + j * 12 + 5, none⟩ = some (.int .i64 D) ∧ w'.cell? ⟨b, off + j * 12 + 6, none⟩ = some (.int .i64 k2) ∧ w'.cell? ⟨b, off + j * 12 + 7, none⟩ = some (.int .i64 n2) ∧ w'.cell? ⟨b, off + j * 12 + 8, none⟩ = some (.string s2) ∧ w'.cell? ⟨b, off + j * 12 + 9, none⟩ = some (.slice xa2 x2.length xc2) ∧ w'.cell? ⟨b, off + j * 12 + 10, none⟩ = some (.slice a2 ms2.length cap2) ∧ w'.cell? ⟨b, off + j * 12 + 11, none⟩ = some (.slice a3 ms3.length cap3) ∧ w'.cell? ⟨b', off' + j * 12, none⟩ = some (.int .i64 k1') ∧ w'.cell? ⟨b', off' + j * 12 + 1, none⟩ = some (.int .i64 n1') ∧ w'.cell? ⟨b', off' + j * 12 + 2, none⟩ = some (.string s1') ∧ w'.cell? ⟨b', off' + j * 12 + 3, none⟩ = some (.slice xa1' x1'.length xc1') ∧ w'.cell? ⟨b', off' + j * 12 + 4, none⟩ = some (.slice a1' ms1'.length cap1') ∧ w'.cell? ⟨b', off' + j * 12 + 5, none⟩ = some (.int .i64 D') ∧ w'.cell? ⟨b', off' + j * 12 + 6, none⟩ = some (.int .i64 k2') ∧ w'.cell? ⟨b', off' + j * 12 + 7, none⟩ = some (.int .i64 n2') ∧ w'.cell? ⟨b', off' + j * 12 + 8, none⟩ = some (.string s2') ∧ w'.cell? ⟨b', off' + j * 12 + 9, none⟩ = some (.slice xa2' x2'.length xc2') ∧ w'.cell? ⟨b', off' + j * 12 + 10, none⟩ = some (.slice a2' ms2'.length cap2') ∧ w'.cell? ⟨b', off' + j * 12 + 11, none⟩ = some (.slice a3' ms3'.length cap3'))) (by kernel_rfl) ?_ (fun hHeld => ?_)
          · (first | (with_reducible exact hs0) | (with_reducible exact hs1) | (simp only [World.cell?_drew]; first | (with_reducible exact hs0) | (with_reducible exact hs1)))
          refine wpAnyH_take (i := 0) (oi := ?oo151) (v := ?vv151) ?hi151 (by kernel_rfl) (by kernel_rfl) (by kernel_rfl) ?hq151 ?hw151 (by assumption) ?rest151
          case hi151 => (simp only [List.getElem?_toArray, List.getElem?_cons_succ, List.getElem?_cons_zero]; rfl)
          case hq151 => exact fun _ _ _ h => h
          case hw151 => (refine Or.inl ⟨by rfl, ?_⟩; intro w hSw; (try dsimp only at hSw); go_simp; try with_reducible rfl)
          (try simp only [Act.put, List.setIfInBounds_toArray, List.set_cons_zero, List.set_cons_succ])
          refine wpAnyH_take (i := 1) (oi := ?oo152) (v := ?vv152) ?hi152 (by kernel_rfl) (by kernel_rfl) (by kernel_rfl) ?hq152 ?hw152 (by assumption) ?rest152
          case hi152 => (simp only [List.getElem?_toArray, List.getElem?_cons_succ, List.getElem?_cons_zero]; rfl)
          case hq152 => exact fun _ _ _ h => h
          case hw152 => (refine Or.inl ⟨by rfl, ?_⟩; intro w hSw; (try dsimp only at hSw); go_simp; try with_reducible rfl)
          (try simp only [Act.put, List.setIfInBounds_toArray, List.set_cons_zero, List.set_cons_succ])
          refine wpAnyH_take (i := 2) (oi := ?oo153) (v := ?vv153) ?hi153 (by kernel_rfl) (by kernel_rfl) (by kernel_rfl) ?hq153 ?hw153 (by assumption) ?rest153
          case hi153 => (simp only [List.getElem?_toArray, List.getElem?_cons_succ, List.getElem?_cons_zero]; rfl)
          case hq153 => exact fun _ _ _ h => h
          case hw153 => (refine Or.inl ⟨by rfl, ?_⟩; intro w hSw; (try dsimp only at hSw); go_simp; try with_reducible rfl)
          (try simp only [Act.put, List.setIfInBounds_toArray, List.set_cons_zero, List.set_cons_succ])
          refine wpAnyH_take (i := 3) (oi := ?oo154) (v := ?vv154) ?hi154 (by kernel_rfl) (by kernel_rfl) (by kernel_rfl) ?hq154 ?hw154 (by assumption) ?rest154
          case hi154 => (simp only [List.getElem?_toArray, List.getElem?_cons_succ, List.getElem?_cons_zero]; rfl)
          case hq154 => exact fun _ _ _ h => h
          case hw154 => (refine Or.inl ⟨by rfl, ?_⟩; intro w hSw; (try dsimp only at hSw); go_simp; try with_reducible rfl)
          (try simp only [Act.put, List.setIfInBounds_toArray, List.set_cons_zero, List.set_cons_succ])
          refine wpAnyH_take (i := 4) (oi := ?oo155) (v := ?vv155) ?hi155 (by kernel_rfl) (by kernel_rfl) (by kernel_rfl) ?hq155 ?hw155 (by assumption) ?rest155
          case hi155 => (simp only [List.getElem?_toArray, List.getElem?_cons_succ, List.getElem?_cons_zero]; rfl)
          case hq155 => exact fun _ _ _ h => h
          case hw155 => (refine Or.inl ⟨by rfl, ?_⟩; intro w hSw; (try dsimp only at hSw); go_simp; try with_reducible rfl)
          (try simp only [Act.put, List.setIfInBounds_toArray, List.set_cons_zero, List.set_cons_succ])
          refine wpAnyH_take (i := 5) (oi := ?oo156) (v := ?vv156) ?hi156 (by kernel_rfl) (by kernel_rfl) (by kernel_rfl) ?hq156 ?hw156 (by assumption) ?rest156
          case hi156 => (simp only [List.getElem?_toArray, List.getElem?_cons_succ, List.getElem?_cons_zero]; rfl)
          case hq156 => exact fun _ _ _ h => h
          case hw156 => (refine Or.inl ⟨by rfl, ?_⟩; intro w hSw; (try dsimp only at hSw); go_simp; try with_reducible rfl)
          (try simp only [Act.put, List.setIfInBounds_toArray, List.set_cons_zero, List.set_cons_succ])
          refine wpAnyH_take (i := 6) (oi := ?oo157) (v := ?vv157) ?hi157 (by kernel_rfl) (by kernel_rfl) (by kernel_rfl) ?hq157 ?hw157 (by assumption) ?rest157
          case hi157 => (simp only [List.getElem?_toArray, List.getElem?_cons_succ, List.getElem?_cons_zero]; rfl)
          case hq157 => exact fun _ _ _ h => h
          case hw157 => (refine Or.inl ⟨by rfl, ?_⟩; intro w hSw; (try dsimp only at hSw); go_simp; try with_reducible rfl)
          (try simp only [Act.put, List.setIfInBounds_toArray, List.set_cons_zero, List.set_cons_succ])
          refine wpAnyH_take (i := 7) (oi := ?oo158) (v := ?vv158) ?hi158 (by kernel_rfl) (by kernel_rfl) (by kernel_rfl) ?hq158 ?hw158 (by assumption) ?rest158
          case hi158 => (simp only [List.getElem?_toArray, List.getElem?_cons_succ, List.getElem?_cons_zero]; rfl)
          case hq158 => exact fun _ _ _ h => h
          case hw158 => (refine Or.inl ⟨by rfl, ?_⟩; intro w hSw; (try dsimp only at hSw); go_simp; try with_reducible rfl)
          (try simp only [Act.put, List.setIfInBounds_toArray, List.set_cons_zero, List.set_cons_succ])
          refine wpAnyH_take (i := 8) (oi := ?oo159) (v := ?vv159) ?hi159 (by kernel_rfl) (by kernel_rfl) (by kernel_rfl) ?hq159 ?hw159 (by assumption) ?rest159
          case hi159 => (simp only [List.getElem?_toArray, List.getElem?_cons_succ, List.getElem?_cons_zero]; rfl)
          case hq159 => exact fun _ _ _ h => h
          case hw159 => (refine Or.inl ⟨by rfl, ?_⟩; intro w hSw; (try dsimp only at hSw); go_simp; try with_reducible rfl)
          (try simp only [Act.put, List.setIfInBounds_toArray, List.set_cons_zero, List.set_cons_succ])
          refine wpAnyH_take (i := 9) (oi := ?oo160) (v := ?vv160) ?hi160 (by kernel_rfl) (by kernel_rfl) (by kernel_rfl) ?hq160 ?hw160 (by assumption) ?rest160
          case hi160 => (simp only [List.getElem?_toArray, List.getElem?_cons_succ, List.getElem?_cons_zero]; rfl)
          case hq160 => exact fun _ _ _ h => h
          case hw160 => (refine Or.inl ⟨by rfl, ?_⟩; intro w hSw; (try dsimp only at hSw); go_simp; try with_reducible rfl)
          (try simp only [Act.put, List.setIfInBounds_toArray, List.set_cons_zero, List.set_cons_succ])
          refine wpAnyH_ready (rs := [10]) (by kernel_rfl) (by simp) ?_
          refine AllReadyH.cons (o := _) rfl (fun K hK => ?_) AllReadyH.nil
          go_simp
          go_at_call 26; (with_reducible refine (HN.out _ (HI1.out.at_ (by (repeat (first | with_reducible assumption | with_reducible exact Below.refl _ _ | with_reducible refine Below.drew ?_ | with_reducible refine belowDrewN ?_ _ | ((with_reducible refine Below.setCell ?_ ?_ _); rotate_left; focus (first | omega | (simp; done) | (simp; omega))) | ((with_reducible refine Below.alloc ?_ ?_ _); rotate_left; focus (first | omega | (simp; done) | (simp; omega))) | ((with_reducible refine Below.trans ?_ (Below.mono hb1 ?_)); rotate_left; focus (first | omega | (simp; done) | (simp; omega))))))) (HI1'.out.at_ (by (repeat (first | with_reducible assumption | with_reducible exact Below.refl _ _ | with_reducible refine Below.drew ?_ | with_reducible refine belowDrewN ?_ _ | ((with_reducible refine Below.setCell ?_ ?_ _); rotate_left; focus (first | omega | (simp; done) | (simp; omega))) | ((with_reducible refine Below.alloc ?_ ?_ _); rotate_left; focus (first | omega | (simp; done) | (simp; omega))) | ((with_reducible refine Below.trans ?_ (Below.mono hb1 ?_)); rotate_left; focus (first | omega | (simp; done) | (simp; omega)))))))).mono ?_); rintro e w1 ⟨rfl, hb1⟩; obtain ⟨hc1, hf1⟩ := bcell hb1; have hz1 := hb1.size; (try simp only [World.size_alloc, World.size_setCell, World.size_drew, sizeDrewN] at hz1 hc1 hf1); have hp1 : b < w1.heap.size := (by omega); have hp1' : b' < w1.heap.size := (by omega); have hs1 : (w1.cell? ⟨b, off + j * 12, none⟩ = some (.int .i64 k1) ∧ w1.cell? ⟨b, off + j * 12 + 1, none⟩ = some (.int .i64 n1) ∧ w1.cell? ⟨b, off + j * 12 + 2, none⟩ = some (.string s1) ∧ w1.cell? ⟨b, off + j * 12 + 3, none⟩ = some (.slice xa1 x1.length xc1) ∧ w1.cell? ⟨b, off + j * 12 + 4, none⟩ = some (.slice a1 ms1.length cap1) ∧ w1.cell? ⟨b, off + j * 12 + 5, none⟩ = some (.int .i64 D) ∧ w1.cell? ⟨b, off + j * 12 + 6, none⟩ = some (.int .i64 k2) ∧ w1.cell? ⟨b, off + j * 12 + 7, none⟩ = some (.int .i64 n2) ∧ w1.cell? ⟨b, off + j * 12 + 8, none⟩ = some (.string s2) ∧ w1.cell? ⟨b, off + j * 12 + 9, none⟩ = some (.slice xa2 x2.length xc2) ∧ w1.cell? ⟨b, off + j * 12 + 10, none⟩ = some (.slice a2 ms2.length cap2) ∧ w1.cell? ⟨b, off + j * 12 + 11, none⟩ = some (.slice a3 ms3.length cap3) ∧ w1.cell? ⟨b', off' + j * 12, none⟩ = some (.int .i64 k1') ∧ w1.cell? ⟨b', off' + j * 12 + 1, none⟩ = some (.int .i64 n1') ∧ w1.cell? ⟨b', off' + j * 12 + 2, none⟩ = some (.string s1') ∧ w1.cell? ⟨b', off' + j * 12 + 3, none⟩ = some (.slice xa1' x1'.length xc1') ∧ w1.cell? ⟨b', off' + j * 12 + 4, none⟩ = some (.slice a1' ms1'.length cap1') ∧ w1.cell? ⟨b', off' + j * 12 + 5, none⟩ = some (.int .i64 D') ∧ w1.cell? ⟨b', off' + j * 12 + 6, none⟩ = some (.int .i64 k2') ∧ w1.cell? ⟨b', off' + j * 12 + 7, none⟩ = some (.int .i64 n2') ∧ w1.cell? ⟨b', off' + j * 12 + 8, none⟩ = some (.string s2') ∧ w1.cell? ⟨b', off' + j * 12 + 9, none⟩ = some (.slice xa2' x2'.length xc2') ∧ w1.cell? ⟨b', off' + j * 12 + 10, none⟩ = some (.slice a2' ms2'.length cap2') ∧ w1.cell? ⟨b', off' + j * 12 + 11, none⟩ = some (.slice a3' ms3'.length cap3')) := (by first | (simp (disch := omega) only [hc1, hs0, and_self, go_sem, World.cell?_drew]; done))
          refine hK.out _ _ (by (try dsimp only); first | exact hs1 | (first | (with_reducible exact hs0) | (with_reducible exact hs1) | (simp only [World.cell?_drew]; first | (with_reducible exact hs0) | (with_reducible exact hs1)))) (fun hHeld => ?_)
          clear hK K
          (try simp only [Act.put, List.setIfInBounds_toArray, List.set_cons_zero, List.set_cons_succ])
          refine wpAnyH_take (i := 11) (oi := ?oo161) (v := ?vv161) ?hi161 (by kernel_rfl) (by kernel_rfl) (by kernel_rfl) ?hq161 ?hw161 (by assumption) ?rest161
          case hi161 => (simp only [List.getElem?_toArray, List.getElem?_cons_succ, List.getElem?_cons_zero]; rfl)
          case hq161 => exact fun _ _ _ h => h
          case hw161 => (refine Or.inl ⟨by rfl, ?_⟩; intro w hSw; (try dsimp only at hSw); go_simp; try with_reducible rfl)
          (try simp only [Act.put, List.setIfInBounds_toArray, List.set_cons_zero, List.set_cons_succ])
          refine wpAnyH_take (i := 12) (oi := ?oo162) (v := ?vv162) ?hi162 (by kernel_rfl) (by kernel_rfl) (by kernel_rfl) ?hq162 ?hw162 (by assumption) ?rest162
          case hi162 => (simp only [List.getElem?_toArray, List.getElem?_cons_succ, List.getElem?_cons_zero]; rfl)
          case hq162 => exact fun _ _ _ h => h
          case hw162 => (refine Or.inl ⟨by rfl, ?_⟩; intro w hSw; (try dsimp only at hSw); go_simp; try with_reducible rfl)
          (try simp only [Act.put, List.setIfInBounds_toArray, List.set_cons_zero, List.set_cons_succ])
          refine wpAnyH_take (i := 13) (oi := ?oo163) (v := undef) ?hi163 (by kernel_rfl) (by kernel_rfl) (by kernel_rfl) ?hq163 ?hw163 (by assumption) ?rest163
          case hi163 => (simp only [List.getElem?_toArray, List.getElem?_cons_succ, List.getElem?_cons_zero]; rfl)
          case hq163 => exact fun _ _ _ h => h
          case hw163 => exact Or.inr ⟨by rfl, rfl⟩
          (try simp only [Act.put, List.setIfInBounds_toArray, List.set_cons_zero, List.set_cons_succ])
          refine wpAnyH_take (i := 14) (oi := ?oo164) (v := undef) ?hi164 (by kernel_rfl) (by kernel_rfl) (by kernel_rfl) ?hq164 ?hw164 (by assumption) ?rest164
          case hi164 => (simp only [List.getElem?_toArray, List.getElem?_cons_succ, List.getElem?_cons_zero]; rfl)
          case hq164 => exact fun _ _ _ h => h
          case hw164 => exact Or.inr ⟨by rfl, rfl⟩
          (try simp only [Act.put, List.setIfInBounds_toArray, List.set_cons_zero, List.set_cons_succ])
          refine wpAnyH_take (i := 15) (oi := ?oo165) (v := undef) ?hi165 (by kernel_rfl) (by kernel_rfl) (by kernel_rfl) ?hq165 ?hw165 (by assumption) ?rest165
          case hi165 => (simp only [List.getElem?_toArray, List.getElem?_cons_succ, List.getElem?_cons_zero]; rfl)
          case hq165 => exact fun _ _ _ h => h
          case hw165 => exact Or.inr ⟨by rfl, rfl⟩
          (try simp only [Act.put, List.setIfInBounds_toArray, List.set_cons_zero, List.set_cons_succ])
          refine wpAnyH_take (i := 16) (oi := ?oo166) (v := undef) ?hi166 (by kernel_rfl) (by kernel_rfl) (by kernel_rfl) ?hq166 ?hw166 (by assumption) ?rest166
          case hi166 => (simp only [List.getElem?_toArray, List.getElem?_cons_succ, List.getElem?_cons_zero]; rfl)
          case hq166 => exact fun _ _ _ h => h
          case hw166 => exact Or.inr ⟨by rfl, rfl⟩
          (try simp only [Act.put, List.setIfInBounds_toArray, List.set_cons_zero, List.set_cons_succ])
          refine wpAnyH_take (i := 17) (oi := ?oo167) (v := undef) ?hi167 (by kernel_rfl) (by kernel_rfl) (by kernel_rfl) ?hq167 ?hw167 (by assumption) ?rest167
          case hi167 => (simp only [List.getElem?_toArray, List.getElem?_cons_succ, List.getElem?_cons_zero]; rfl)
          case hq167 => exact fun _ _ _ h => h
          case hw167 => exact Or.inr ⟨by rfl, rfl⟩
          (try simp only [Act.put, List.setIfInBounds_toArray, List.set_cons_zero, List.set_cons_succ])
          refine wpAnyH_take (i := 18) (oi := ?oo168) (v := undef) ?hi168 (by kernel_rfl) (by kernel_rfl) (by kernel_rfl) ?hq168 ?hw168 (by assumption) ?rest168
          case hi168 => (simp only [List.getElem?_toArray, List.getElem?_cons_succ, List.getElem?_cons_zero]; rfl)
          case hq168 => exact fun _ _ _ h => h
          case hw168 => exact Or.inr ⟨by rfl, rfl⟩
          (try simp only [Act.put, List.setIfInBounds_toArray, List.set_cons_zero, List.set_cons_succ])
          refine wpAnyH_take (i := 19) (oi := ?oo169) (v := undef) ?hi169 (by kernel_rfl) (by kernel_rfl) (by kernel_rfl) ?hq169 ?hw169 (by assumption) ?rest169
          case hi169 => (simp only [List.getElem?_toArray, List.getElem?_cons_succ, List.getElem?_cons_zero]; rfl)
          case hq169 => exact fun _ _ _ h => h
          case hw169 => exact Or.inr ⟨by rfl, rfl⟩
          (try simp only [Act.put, List.setIfInBounds_toArray, List.set_cons_zero, List.set_cons_succ])
          refine wpAnyH_take (i := 20) (oi := ?oo170) (v := undef) ?hi170 (by kernel_rfl) (by kernel_rfl) (by kernel_rfl) ?hq170 ?hw170 (by assumption) ?rest170
          case hi170 => (simp only [List.getElem?_toArray, List.getElem?_cons_succ, List.getElem?_cons_zero]; rfl)
          case hq170 => exact fun _ _ _ h => h
          case hw170 => exact Or.inr ⟨by rfl, rfl⟩
          (try simp only [Act.put, List.setIfInBounds_toArray, List.set_cons_zero, List.set_cons_succ])
          refine wpAnyH_take (i := 21) (oi := ?oo171) (v := undef) ?hi171 (by kernel_rfl) (by kernel_rfl) (by kernel_rfl) ?hq171 ?hw171 (by assumption) ?rest171
          case hi171 => (simp only [List.getElem?_toArray, List.getElem?_cons_succ, List.getElem?_cons_zero]; rfl)
          case hq171 => exact fun _ _ _ h => h
          case hw171 => exact Or.inr ⟨by rfl, rfl⟩
          (try simp only [Act.put, List.setIfInBounds_toArray, List.set_cons_zero, List.set_cons_succ])
          refine wpAnyH_take (i := 22) (oi := ?oo172) (v := undef) ?hi172 (by kernel_rfl) (by kernel_rfl) (by kernel_rfl) ?hq172 ?hw172 (by assumption) ?rest172
          case hi172 => (simp only [List.getElem?_toArray, List.getElem?_cons_succ, List.getElem?_cons_zero]; rfl)
          case hq172 => exact fun _ _ _ h => h
          case hw172 => exact Or.inr ⟨by rfl, rfl⟩
          (try simp only [Act.put, List.setIfInBounds_toArray, List.set_cons_zero, List.set_cons_succ])
          refine wpAnyH_take (i := 23) (oi := ?oo173) (v := undef) ?hi173 (by kernel_rfl) (by kernel_rfl) (by kernel_rfl) ?hq173 ?hw173 (by assumption) ?rest173
          case hi173 => (simp only [List.getElem?_toArray, List.getElem?_cons_succ, List.getElem?_cons_zero]; rfl)
          case hq173 => exact fun _ _ _ h => h
          case hw173 => exact Or.inr ⟨by rfl, rfl⟩
          (try simp only [Act.put, List.setIfInBounds_toArray, List.set_cons_zero, List.set_cons_succ])
          refine wpAnyH_take (i := 24) (oi := ?oo174) (v := ?vv174) ?hi174 (by kernel_rfl) (by kernel_rfl) (by kernel_rfl) ?hq174 ?hw174 (by assumption) ?rest174
          case hi174 => (simp only [List.getElem?_toArray, List.getElem?_cons_succ, List.getElem?_cons_zero]; rfl)
          case hq174 => exact fun _ _ _ h => h
          case hw174 => (refine Or.inl ⟨by rfl, ?_⟩; intro w hSw; (try dsimp only at hSw); go_simp; try with_reducible rfl)
          (try simp only [Act.put, List.setIfInBounds_toArray, List.set_cons_zero, List.set_cons_succ])
          refine wpAnyH_take (i := 25) (oi := ?oo175) (v := ?vv175) ?hi175 (by kernel_rfl) (by kernel_rfl) (by kernel_rfl) ?hq175 ?hw175 (by assumption) ?rest175
          case hi175 => (simp only [List.getElem?_toArray, List.getElem?_cons_succ, List.getElem?_cons_zero]; rfl)
          case hq175 => exact fun _ _ _ h => h
          case hw175 => (refine Or.inl ⟨by rfl, ?_⟩; intro w hSw; (try dsimp only at hSw); go_simp; try with_reducible rfl)
          (try simp only [Act.put, List.setIfInBounds_toArray, List.set_cons_zero, List.set_cons_succ])
          refine wpAnyH_take (i := 26) (oi := ?oo176) (v := undef) ?hi176 (by kernel_rfl) (by kernel_rfl) (by kernel_rfl) ?hq176 ?hw176 (by assumption) ?rest176
          case hi176 => (simp only [List.getElem?_toArray, List.getElem?_cons_succ, List.getElem?_cons_zero]; rfl)
          case hq176 => exact fun _ _ _ h => h
          case hw176 => exact Or.inr ⟨by rfl, rfl⟩
          (try simp only [Act.put, List.setIfInBounds_toArray, List.set_cons_zero, List.set_cons_succ])
          refine wpAnyH_take (i := 27) (oi := ?oo177) (v := undef) ?hi177 (by kernel_rfl) (by kernel_rfl) (by kernel_rfl) ?hq177 ?hw177 (by assumption) ?rest177
          case hi177 => (simp only [List.getElem?_toArray, List.getElem?_cons_succ, List.getElem?_cons_zero]; rfl)
          case hq177 => exact fun _ _ _ h => h
          case hw177 => exact Or.inr ⟨by rfl, rfl⟩
          (try simp only [Act.put, List.setIfInBounds_toArray, List.set_cons_zero, List.set_cons_succ])
          refine wpAnyH_take (i := 28) (oi := ?oo178) (v := undef) ?hi178 (by kernel_rfl) (by kernel_rfl) (by kernel_rfl) ?hq178 ?hw178 (by assumption) ?rest178
          case hi178 => (simp only [List.getElem?_toArray, List.getElem?_cons_succ, List.getElem?_cons_zero]; rfl)
          case hq178 => exact fun _ _ _ h => h
          case hw178 => exact Or.inr ⟨by rfl, rfl⟩
          (try simp only [Act.put, List.setIfInBounds_toArray, List.set_cons_zero, List.set_cons_succ])
          refine wpAnyH_take (i := 29) (oi := ?oo179) (v := undef) ?hi179 (by kernel_rfl) (by kernel_rfl) (by kernel_rfl) ?hq179 ?hw179 (by assumption) ?rest179
          case hi179 => (simp only [List.getElem?_toArray, List.getElem?_cons_succ, List.getElem?_cons_zero]; rfl)
          case hq179 => exact fun _ _ _ h => h
          case hw179 => exact Or.inr ⟨by rfl, rfl⟩
          (try simp only [Act.put, List.setIfInBounds_toArray, List.set_cons_zero, List.set_cons_succ])
          refine wpAnyH_take (i := 30) (oi := ?oo180) (v := undef) ?hi180 (by kernel_rfl) (by kernel_rfl) (by kernel_rfl) ?hq180 ?hw180 (by assumption) ?rest180
          case hi180 => (simp only [List.getElem?_toArray, List.getElem?_cons_succ, List.getElem?_cons_zero]; rfl)
          case hq180 => exact fun _ _ _ h => h
          case hw180 => exact Or.inr ⟨by rfl, rfl⟩
          (try simp only [Act.put, List.setIfInBounds_toArray, List.set_cons_zero, List.set_cons_succ])
          refine wpAnyH_take (i := 31) (oi := ?oo181) (v := undef) ?hi181 (by kernel_rfl) (by kernel_rfl) (by kernel_rfl) ?hq181 ?hw181 (by assumption) ?rest181
          case hi181 => (simp only [List.getElem?_toArray, List.getElem?_cons_succ, List.getElem?_cons_zero]; rfl)
          case hq181 => exact fun _ _ _ h => h
          case hw181 => exact Or.inr ⟨by rfl, rfl⟩
          (try simp only [Act.put, List.setIfInBounds_toArray, List.set_cons_zero, List.set_cons_succ])
          refine wpAnyH_take (i := 32) (oi := ?oo182) (v := undef) ?hi182 (by kernel_rfl) (by kernel_rfl) (by kernel_rfl) ?hq182 ?hw182 (by assumption) ?rest182
          case hi182 => (simp only [List.getElem?_toArray, List.getElem?_cons_succ, List.getElem?_cons_zero]; rfl)
          case hq182 => exact fun _ _ _ h => h
          case hw182 => exact Or.inr ⟨by rfl, rfl⟩
          (try simp only [Act.put, List.setIfInBounds_toArray, List.set_cons_zero, List.set_cons_succ])
          refine wpAnyH_take (i := 33) (oi := ?oo183) (v := undef) ?hi183 (by kernel_rfl) (by kernel_rfl) (by kernel_rfl) ?hq183 ?hw183 (by assumption) ?rest183
          case hi183 => (simp only [List.getElem?_toArray, List.getElem?_cons_succ, List.getElem?_cons_zero]; rfl)
          case hq183 => exact fun _ _ _ h => h
          case hw183 => exact Or.inr ⟨by rfl, rfl⟩
          (try simp only [Act.put, List.setIfInBounds_toArray, List.set_cons_zero, List.set_cons_succ])
          refine wpAnyH_take (i := 34) (oi := ?oo184) (v := undef) ?hi184 (by kernel_rfl) (by kernel_rfl) (by kernel_rfl) ?hq184 ?hw184 (by assumption) ?rest184
          case hi184 => (simp only [List.getElem?_toArray, List.getElem?_cons_succ, List.getElem?_cons_zero]; rfl)
          case hq184 => exact fun _ _ _ h => h
          case hw184 => exact Or.inr ⟨by rfl, rfl⟩
          (try simp only [Act.put, List.setIfInBounds_toArray, List.set_cons_zero, List.set_cons_succ])
          refine wpAnyH_take (i := 35) (oi := ?oo185) (v := undef) ?hi185 (by kernel_rfl) (by kernel_rfl) (by kernel_rfl) ?hq185 ?hw185 (by assumption) ?rest185
          case hi185 => (simp only [List.getElem?_toArray, List.getElem?_cons_succ, List.getElem?_cons_zero]; rfl)
          case hq185 => exact fun _ _ _ h => h
          case hw185 => exact Or.inr ⟨by rfl, rfl⟩
          (try simp only [Act.put, List.setIfInBounds_toArray, List.set_cons_zero, List.set_cons_succ])
          refine wpAnyH_ready (rs := [36]) (by kernel_rfl) (by simp) ?_
          refine AllReadyH.cons (o := _) rfl (fun K hK => ?_) AllReadyH.nil
          go_simp
          refine hK.out _ _ (by (try dsimp only); first | exact hHeld | (first | (with_reducible exact hs0) | (with_reducible exact hs1) | (simp only [World.cell?_drew]; first | (with_reducible exact hs0) | (with_reducible exact hs1)))) (fun hHeld => ?_)
          clear hK K
          (try simp only [Act.put, List.setIfInBounds_toArray, List.set_cons_zero, List.set_cons_succ])
          refine wpAnyH_take (i := 37) (oi := ?oo186) (v := undef) ?hi186 (by kernel_rfl) (by kernel_rfl) (by kernel_rfl) ?hq186 ?hw186 (by assumption) ?rest186
          case hi186 => (simp only [List.getElem?_toArray, List.getElem?_cons_succ, List.getElem?_cons_zero]; rfl)
          case hq186 => exact fun _ _ _ h => h
          case hw186 => exact Or.inr ⟨by rfl, rfl⟩
          (try simp only [Act.put, List.setIfInBounds_toArray, List.set_cons_zero, List.set_cons_succ])
          refine wpAnyH_take (i := 38) (oi := ?oo187) (v := ?vv187) ?hi187 (by kernel_rfl) (by kernel_rfl) (by kernel_rfl) ?hq187 ?hw187 (by assumption) ?rest187
          case hi187 => (simp only [List.getElem?_toArray, List.getElem?_cons_succ, List.getElem?_cons_zero]; rfl)
          case hq187 => exact fun _ _ _ h => h
          case hw187 => (refine Or.inl ⟨by rfl, ?_⟩; intro w hSw; (try dsimp only at hSw); go_simp; try with_reducible rfl)
          (try simp only [Act.put, List.setIfInBounds_toArray, List.set_cons_zero, List.set_cons_succ])
          refine wpAnyH_take (i := 39) (oi := ?oo188) (v := ?vv188) ?hi188 (by kernel_rfl) (by kernel_rfl) (by kernel_rfl) ?hq188 ?hw188 (by assumption) ?rest188
          case hi188 => (simp only [List.getElem?_toArray, List.getElem?_cons_succ, List.getElem?_cons_zero]; rfl)
          case hq188 => exact fun _ _ _ h => h
          case hw188 => (refine Or.inl ⟨by rfl, ?_⟩; intro w hSw; (try dsimp only at hSw); go_simp; try with_reducible rfl)
          (try simp only [Act.put, List.setIfInBounds_toArray, List.set_cons_zero, List.set_cons_succ])
          refine wpAnyH_take (i := 40) (oi := ?oo189) (v := undef) ?hi189 (by kernel_rfl) (by kernel_rfl) (by kernel_rfl) ?hq189 ?hw189 (by assumption) ?rest189
          case hi189 => (simp only [List.getElem?_toArray, List.getElem?_cons_succ, List.getElem?_cons_zero]; rfl)
          case hq189 => exact fun _ _ _ h => h
          case hw189 => exact Or.inr ⟨by rfl, rfl⟩
          (try simp only [Act.put, List.setIfInBounds_toArray, List.set_cons_zero, List.set_cons_succ])
          refine wpAnyH_take (i := 41) (oi := ?oo190) (v := undef) ?hi190 (by kernel_rfl) (by kernel_rfl) (by kernel_rfl) ?hq190 ?hw190 (by assumption) ?rest190
          case hi190 => (simp only [List.getElem?_toArray, List.getElem?_cons_succ, List.getElem?_cons_zero]; rfl)
          case hq190 => exact fun _ _ _ h => h
          case hw190 => exact Or.inr ⟨by rfl, rfl⟩
          (try simp only [Act.put, List.setIfInBounds_toArray, List.set_cons_zero, List.set_cons_succ])
          refine wpAnyH_take (i := 42) (oi := ?oo191) (v := undef) ?hi191 (by kernel_rfl) (by kernel_rfl) (by kernel_rfl) ?hq191 ?hw191 (by assumption) ?rest191
          case hi191 => (simp only [List.getElem?_toArray, List.getElem?_cons_succ, List.getElem?_cons_zero]; rfl)
          case hq191 => exact fun _ _ _ h => h
          case hw191 => exact Or.inr ⟨by rfl, rfl⟩
          (try simp only [Act.put, List.setIfInBounds_toArray, List.set_cons_zero, List.set_cons_succ])
          refine wpAnyH_take (i := 43) (oi := ?oo192) (v := undef) ?hi192 (by kernel_rfl) (by kernel_rfl) (by kernel_rfl) ?hq192 ?hw192 (by assumption) ?rest192
          case hi192 => (simp only [List.getElem?_toArray, List.getElem?_cons_succ, List.getElem?_cons_zero]; rfl)
          case hq192 => exact fun _ _ _ h => h
          case hw192 => exact Or.inr ⟨by rfl, rfl⟩
          (try simp only [Act.put, List.setIfInBounds_toArray, List.set_cons_zero, List.set_cons_succ])
          refine wpAnyH_take (i := 44) (oi := ?oo193) (v := undef) ?hi193 (by kernel_rfl) (by kernel_rfl) (by kernel_rfl) ?hq193 ?hw193 (by assumption) ?rest193
          case hi193 => (simp only [List.getElem?_toArray, List.getElem?_cons_succ, List.getElem?_cons_zero]; rfl)
          case hq193 => exact fun _ _ _ h => h
          case hw193 => exact Or.inr ⟨by rfl, rfl⟩
          (try simp only [Act.put, List.setIfInBounds_toArray, List.set_cons_zero, List.set_cons_succ])
          refine wpAnyH_take (i := 45) (oi := ?oo194) (v := undef) ?hi194 (by kernel_rfl) (by kernel_rfl) (by kernel_rfl) ?hq194 ?hw194 (by assumption) ?rest194
          case hi194 => (simp only [List.getElem?_toArray, List.getElem?_cons_succ, List.getElem?_cons_zero]; rfl)
          case hq194 => exact fun _ _ _ h => h
          case hw194 => exact Or.inr ⟨by rfl, rfl⟩
          (try simp only [Act.put, List.setIfInBounds_toArray, List.set_cons_zero, List.set_cons_succ])
          refine wpAnyH_take (i := 46) (oi := ?oo195) (v := undef) ?hi195 (by kernel_rfl) (by kernel_rfl) (by kernel_rfl) ?hq195 ?hw195 (by assumption) ?rest195
          case hi195 => (simp only [List.getElem?_toArray, List.getElem?_cons_succ, List.getElem?_cons_zero]; rfl)
          case hq195 => exact fun _ _ _ h => h
          case hw195 => exact Or.inr ⟨by rfl, rfl⟩
          (try simp only [Act.put, List.setIfInBounds_toArray, List.set_cons_zero, List.set_cons_succ])
          refine wpAnyH_take (i := 47) (oi := ?oo196) (v := undef) ?hi196 (by kernel_rfl) (by kernel_rfl) (by kernel_rfl) ?hq196 ?hw196 (by assumption) ?rest196
          case hi196 => (simp only [List.getElem?_toArray, List.getElem?_cons_succ, List.getElem?_cons_zero]; rfl)
          case hq196 => exact fun _ _ _ h => h
          case hw196 => exact Or.inr ⟨by rfl, rfl⟩
          (try simp only [Act.put, List.setIfInBounds_toArray, List.set_cons_zero, List.set_cons_succ])
          refine wpAnyH_take (i := 48) (oi := ?oo197) (v := undef) ?hi197 (by kernel_rfl) (by kernel_rfl) (by kernel_rfl) ?hq197 ?hw197 (by assumption) ?rest197
          case hi197 => (simp only [List.getElem?_toArray, List.getElem?_cons_succ, List.getElem?_cons_zero]; rfl)
          case hq197 => exact fun _ _ _ h => h
          case hw197 => exact Or.inr ⟨by rfl, rfl⟩
          (try simp only [Act.put, List.setIfInBounds_toArray, List.set_cons_zero, List.set_cons_succ])
          refine wpAnyH_take (i := 49) (oi := ?oo198) (v := undef) ?hi198 (by kernel_rfl) (by kernel_rfl) (by kernel_rfl) ?hq198 ?hw198 (by assumption) ?rest198
          case hi198 => (simp only [List.getElem?_toArray, List.getElem?_cons_succ, List.getElem?_cons_zero]; rfl)
          case hq198 => exact fun _ _ _ h => h
          case hw198 => exact Or.inr ⟨by rfl, rfl⟩
          (try simp only [Act.put, List.setIfInBounds_toArray, List.set_cons_zero, List.set_cons_succ])
          refine wpAnyH_ready (rs := [50]) (by kernel_rfl) (by simp) ?_
          refine AllReadyH.cons (o := _) rfl (fun K hK => ?_) AllReadyH.nil
          go_simp
          refine hK.out _ _ (by (try dsimp only); first | exact hHeld | (first | (with_reducible exact hs0) | (with_reducible exact hs1) | (simp only [World.cell?_drew]; first | (with_reducible exact hs0) | (with_reducible exact hs1)))) (fun hHeld => ?_)
          clear hK K
          (try simp only [Act.put, List.setIfInBounds_toArray, List.set_cons_zero, List.set_cons_succ])
          refine wpAnyH_take (i := 51) (oi := ?oo199) (v := undef) ?hi199 (by kernel_rfl) (by kernel_rfl) (by kernel_rfl) ?hq199 ?hw199 (by assumption) ?rest199
          case hi199 => (simp only [List.getElem?_toArray, List.getElem?_cons_succ, List.getElem?_cons_zero]; rfl)
          case hq199 => exact fun _ _ _ h => h
          case hw199 => exact Or.inr ⟨by rfl, rfl⟩
          (try simp only [Act.put, List.setIfInBounds_toArray, List.set_cons_zero, List.set_cons_succ])
          refine wpAnyH_take (i := 52) (oi := ?oo200) (v := ?vv200) ?hi200 (by kernel_rfl) (by kernel_rfl) (by kernel_rfl) ?hq200 ?hw200 (by assumption) ?rest200
          case hi200 => (simp only [List.getElem?_toArray, List.getElem?_cons_succ, List.getElem?_cons_zero]; rfl)
          case hq200 => exact fun _ _ _ h => h
          case hw200 => (refine Or.inl ⟨by rfl, ?_⟩; intro w hSw; (try dsimp only at hSw); go_simp; try with_reducible rfl)
          (try simp only [Act.put, List.setIfInBounds_toArray, List.set_cons_zero, List.set_cons_succ])
          refine wpAnyH_done (by kernel_rfl) ?_ _
          go_wp2_with fail
          go_ret
          exact ⟨ret_b ((capB_not _ _).2 HNE.out).symm, by (repeat (first | with_reducible assumption | with_reducible exact Below.refl _ _ | with_reducible refine Below.drew ?_ | with_reducible refine belowDrewN ?_ _ | ((with_reducible refine Below.setCell ?_ ?_ _); rotate_left; focus (first | omega | (simp; done) | (simp; omega))) | ((with_reducible refine Below.alloc ?_ ?_ _); rotate_left; focus (first | omega | (simp; done) | (simp; omega))) | ((with_reducible refine Below.trans ?_ (Below.mono hb1 ?_)); rotate_left; focus (first | omega | (simp; done) | (simp; omega)))))⟩
      · go_wp2_with fail
        go_ret
        have hj2 : j = ms.length := by omega
        subst hj2
        refine ⟨ret_b ((capB_iff _ _).2 ?_).symm, hb⟩
        have hpre' := hpre
        rw [HLN.out, List.take_length, ← HLN.out, HL.out, HLN'.out, List.take_length] at hpre'
        exact hpre'
  · have hl' : ((ms.length : Int) != (ms'.length : Int)) = true := by simp; omega
    have IH := Lib.hid ih; clear ih; have HIN := Lib.hid hin; clear hin; have HI := Lib.hid hi; clear hi; have HIN' := Lib.hid hin'; clear hin'; have HI' := Lib.hid hi'; clear hi'; have HLN := Lib.hid hln; clear hln; have HLN' := Lib.hid hln'; clear hln'; have HL := Lib.hid hl; clear hl
    go_enter Try.func8, Try.ntmps8
    go_wp2_with fail
    go_ret
    exact ⟨ret_b ((capB_not _ _).2 (by intro e; exact HL.out (by rw [HLN.out, HLN'.out, e]))).symm, by (repeat (first | with_reducible assumption | with_reducible exact Below.refl _ _ | with_reducible refine Below.drew ?_ | with_reducible refine belowDrewN ?_ _ | ((with_reducible refine Below.setCell ?_ ?_ _); rotate_left; focus (first | omega | (simp; done) | (simp; omega))) | ((with_reducible refine Below.alloc ?_ ?_ _); rotate_left; focus (first | omega | (simp; done) | (simp; omega)))))⟩
end Go.Proofs.Ytigmgfinjapchaa
