/-
  Texts set together by wip/tools/merge.py: ID4, Y5, D5. No condition beyond those told with each.
-/
import Derived.Test.YtghbnehocggnnaaGe
/-
  Walks: the identifiers of a piece of syntax. No condition. (printed by wip/tools/mkid.py)
-/
set_option linter.unusedVariables false
set_option linter.unusedSimpArgs false
set_option maxRecDepth 100000
namespace Go.Proofs.Ytghbnehocggnnaa
open Go.RowKit

def CidsSs (ds : List Syn) : Prop := ∀ (k n : Int) (s : ByteArray) (x : List Int) (xa : Option Addr) (xc : Nat) (a : Option Addr) (cap : Nat) (ms : List M) (acc : List Syn) (b : Option Addr) (bc : Nat) (mb : List M) (w0 w : World), (Syn.mk k n s x ds).ok → acc.length + (1 + Syn.countL ds) ≤ 1000000000 → s.size + (x.length + (ds.length + Syn.wtX ds)) ≤ 2000000 → Syn.IsL 27 ds ms → (M.sl xa xc 1 3 (intM x)).In w0 → (M.sl a cap 5 27 ms).In w0 → (∀ y ∈ acc, y.k = 1) → Syn.IsL 27 acc mb →
    (M.sl b bc 5 27 mb).Mine w w0.heap.size → Below w0.heap.size w0 w →
    Calls Try.prog 62 #[.agg #[.int .i64 k, .int .i64 n, .string s, .slice xa x.length xc, .slice a ms.length cap], .slice b mb.length bc] w (RetSyns 27 (idL ds (addI k n s x ds acc)) w0)
set_option maxHeartbeats 2000000 in
theorem collectIdentifiers_calls : ∀ ds, CidsSs ds := by
  refine Syn.inductL fun ds ih => ?_
  intro k n s x xa xc a cap ms acc b bc mb w0 w hok hB hW hi hx hin ho hj0 hm hb0
  have hl := hi.length
  have hcap := hin.len
  have hxl := Ints.len hx
  have hz0 := hb0.size
  have hjl := hj0.length
  have hbcap := hm.in_.len
  have hj := hj0
  clear hj0
  have IH := Lib.hid ih; clear ih; have HIN := Lib.hid hin; clear hin; have HI := Lib.hid hi; clear hi; have HL := Lib.hid hl; clear hl; have HM := Lib.hid hm; clear hm; have HX := Lib.hid hx; clear hx; have HO := Lib.hid ho; clear ho; have HJ := Lib.hid hj; clear hj; have HJL := Lib.hid hjl; clear hjl
  go_enter Try.func62, Try.ntmps62
  by_cases hk : k = 1
  · subst hk
    have hds := sym_items hok
    subst hds
    rw [idL_nil]
    have HOK := Lib.hid hok; clear hok
    go_wp2_with fail
    go_loopw [14] (fun i wr => ∃ j : Nat, j ≤ mb.length ∧ i = .int .i64 j ∧ ¬ HasId (acc.take j) s x ∧ SBox w.heap.size 1 n s (.slice xa x.length xc) (.slice a ms.length cap) wr ∧ Below w.heap.size w wr ∧ w.heap.size + 1 ≤ wr.heap.size) (fun i _ => mb.length - (intOf i).toNat)
    case atStart => exact ⟨0, Nat.zero_le _, rfl, noId_nil _ _, SBox.new _ _ _ _ _ _, by (repeat (first | with_reducible assumption | with_reducible exact Below.refl _ _ | with_reducible refine Below.drew ?_ | with_reducible refine belowDrewN ?_ _ | ((with_reducible refine Below.setCell ?_ ?_ _); rotate_left; focus (first | omega | (simp; done) | (simp; omega))) | ((with_reducible refine Below.alloc ?_ ?_ _); rotate_left; focus (first | omega | (simp; done) | (simp; omega))))), by simp⟩
    case round =>
      obtain ⟨j, hj, rfl, hno, hq, hb, hsz⟩ := hrel
      have p0 := hq.lt
      have hq0 := hq
      obtain ⟨q0, q1, q2, q3, q4, f0, f1, f2, f3, f4⟩ := hq
      by_cases hlt : j < mb.length
      · obtain ⟨bb, off, k1, n1, s1, x1, ds1, xa1, xc1, a1, cap1, ms1, rfl, hd, hi1, hx1, hin1, c0, c1, c2, c3, c4⟩ := Syn.elem (HM.out.in_.below hb) HJ.out j hlt
        have hbA : Below wr.heap.size wr (wr.alloc (.cells #[.int .i64 k1, .int .i64 n1, .string s1, .slice xa1 x1.length xc1, .slice a1 ms1.length cap1] 27)) := by (repeat (first | with_reducible assumption | with_reducible exact Below.refl _ _ | with_reducible refine Below.drew ?_ | with_reducible refine belowDrewN ?_ _ | ((with_reducible refine Below.setCell ?_ ?_ _); rotate_left; focus (first | omega | (simp; done) | (simp; omega))) | ((with_reducible refine Below.alloc ?_ ?_ _); rotate_left; focus (first | omega | (simp; done) | (simp; omega)))))
        have hq1' := hq0.below hbA p0
        have hk1 : k1 = 1 := by have := HO.out _ (List.mem_of_getElem? hd); simpa using this
        subst hk1
        cases hv : sameIdB s1 s x1 x with
        | true =>
          have hy : HasId acc s x := by
            simp only [sameIdB, Bool.and_eq_true, eqL_iff] at hv
            exact ⟨_, List.mem_of_getElem? hd, by simpa [eqTx] using hv.1, hv.2⟩
          have hA := addI_has hy 1 n []
          have HNO := Lib.hid hno; clear hno; have HD := Lib.hid hd; clear hd; have HX1 := Lib.hid hx1; clear hx1; have HIN1 := Lib.hid hin1; clear hin1; have HI1 := Lib.hid hi1; clear hi1; have HY := Lib.hid hy; clear hy; have HQ0 := Lib.hid hq0; clear hq0; have HQ1' := Lib.hid hq1'; clear hq1'; have HA := Lib.hid hA; clear hA
          go_wp2_with fail
          refine (sameName_calls 1 n1 s1 x1 xa1 xc1 a1 ms1.length cap1 1 n s x xa xc a ms.length cap _ (HX1.out.below (by (repeat (first | with_reducible assumption | with_reducible exact Below.refl _ _ | with_reducible refine Below.drew ?_ | with_reducible refine belowDrewN ?_ _ | ((with_reducible refine Below.setCell ?_ ?_ _); rotate_left; focus (first | omega | (simp; done) | (simp; omega))) | ((with_reducible refine Below.alloc ?_ ?_ _); rotate_left; focus (first | omega | (simp; done) | (simp; omega))))))) (HX.out.below (by (repeat (first | with_reducible assumption | with_reducible exact Below.refl _ _ | with_reducible refine Below.drew ?_ | with_reducible refine belowDrewN ?_ _ | ((with_reducible refine Below.setCell ?_ ?_ _); rotate_left; focus (first | omega | (simp; done) | (simp; omega))) | ((with_reducible refine Below.alloc ?_ ?_ _); rotate_left; focus (first | omega | (simp; done) | (simp; omega))) | ((with_reducible refine Below.trans ?_ (Below.mono hb ?_)); rotate_left; focus (first | omega | (simp; done) | (simp; omega)))))))).mono ?_
          rintro e w1 ⟨rfl, hb1⟩
          have hvv : (((1 : Int) == 1) && (((1 : Int) == 1) && sameIdB s1 s x1 x)) = true := by rw [hv]; rfl
          rw [hvv]
          go_wp2_with fail
          go_ret
          exact ⟨_, bc, mb, rfl, by rw [HA.out]; exact HJ.out, HM.out.below (by (repeat (first | with_reducible assumption | with_reducible exact Below.refl _ _ | with_reducible refine Below.drew ?_ | with_reducible refine belowDrewN ?_ _ | ((with_reducible refine Below.setCell ?_ ?_ _); rotate_left; focus (first | omega | (simp; done) | (simp; omega))) | ((with_reducible refine Below.alloc ?_ ?_ _); rotate_left; focus (first | omega | (simp; done) | (simp; omega))) | ((with_reducible refine Below.trans ?_ (Below.mono hb ?_)); rotate_left; focus (first | omega | (simp; done) | (simp; omega))) | ((with_reducible refine Below.trans ?_ (Below.mono hb1 ?_)); rotate_left; focus (first | omega | (simp; done) | (simp; omega)))))), by (repeat (first | with_reducible assumption | with_reducible exact Below.refl _ _ | with_reducible refine Below.drew ?_ | with_reducible refine belowDrewN ?_ _ | ((with_reducible refine Below.setCell ?_ ?_ _); rotate_left; focus (first | omega | (simp; done) | (simp; omega))) | ((with_reducible refine Below.alloc ?_ ?_ _); rotate_left; focus (first | omega | (simp; done) | (simp; omega))) | ((with_reducible refine Below.trans ?_ (Below.mono hb ?_)); rotate_left; focus (first | omega | (simp; done) | (simp; omega))) | ((with_reducible refine Below.trans ?_ (Below.mono hb1 ?_)); rotate_left; focus (first | omega | (simp; done) | (simp; omega)))))⟩
        | false =>
          have hn2 : ¬ (s1 = s ∧ x1 = x) := by
            rintro ⟨rfl, rfl⟩
            have : sameIdB s1 s1 x1 x1 = true := by simp [sameIdB, eqTx, eqL_iff]
            rw [hv] at this; cases this
          have hno2 := noId_step hno hd hn2
          have HNO := Lib.hid hno; clear hno; have HD := Lib.hid hd; clear hd; have HX1 := Lib.hid hx1; clear hx1; have HIN1 := Lib.hid hin1; clear hin1; have HI1 := Lib.hid hi1; clear hi1; have HN2 := Lib.hid hn2; clear hn2; have HNO2 := Lib.hid hno2; clear hno2; have HQ0 := Lib.hid hq0; clear hq0; have HQ1' := Lib.hid hq1'; clear hq1'
          go_wp2_with fail
          refine (sameName_calls 1 n1 s1 x1 xa1 xc1 a1 ms1.length cap1 1 n s x xa xc a ms.length cap _ (HX1.out.below (by (repeat (first | with_reducible assumption | with_reducible exact Below.refl _ _ | with_reducible refine Below.drew ?_ | with_reducible refine belowDrewN ?_ _ | ((with_reducible refine Below.setCell ?_ ?_ _); rotate_left; focus (first | omega | (simp; done) | (simp; omega))) | ((with_reducible refine Below.alloc ?_ ?_ _); rotate_left; focus (first | omega | (simp; done) | (simp; omega))))))) (HX.out.below (by (repeat (first | with_reducible assumption | with_reducible exact Below.refl _ _ | with_reducible refine Below.drew ?_ | with_reducible refine belowDrewN ?_ _ | ((with_reducible refine Below.setCell ?_ ?_ _); rotate_left; focus (first | omega | (simp; done) | (simp; omega))) | ((with_reducible refine Below.alloc ?_ ?_ _); rotate_left; focus (first | omega | (simp; done) | (simp; omega))) | ((with_reducible refine Below.trans ?_ (Below.mono hb ?_)); rotate_left; focus (first | omega | (simp; done) | (simp; omega)))))))).mono ?_
          rintro e w1 ⟨rfl, hb1⟩
          have hvv : (((1 : Int) == 1) && (((1 : Int) == 1) && sameIdB s1 s x1 x)) = false := by rw [hv]; rfl
          rw [hvv]
          have hz1 := hb1.size
          simp only [World.size_alloc] at hz1
          have hq2' := HQ1'.out.below hb1 (by simp; omega)
          have HQ2' := Lib.hid hq2'; clear hq2'
          go_wp2_with fail
          go_roundw
          case rel => exact ⟨j + 1, by omega, by go_num, HNO2.out, HQ2'.out, by (repeat (first | with_reducible assumption | with_reducible exact Below.refl _ _ | with_reducible refine Below.drew ?_ | with_reducible refine belowDrewN ?_ _ | ((with_reducible refine Below.setCell ?_ ?_ _); rotate_left; focus (first | omega | (simp; done) | (simp; omega))) | ((with_reducible refine Below.alloc ?_ ?_ _); rotate_left; focus (first | omega | (simp; done) | (simp; omega))) | ((with_reducible refine Below.trans ?_ (Below.mono hb ?_)); rotate_left; focus (first | omega | (simp; done) | (simp; omega))) | ((with_reducible refine Below.trans ?_ (Below.mono hb1 ?_)); rotate_left; focus (first | omega | (simp; done) | (simp; omega))))), by omega⟩
          case measure => simp [intOf]; omega
      · have hj2 : j = mb.length := by omega
        subst hj2
        rw [HJ.out.length, List.take_length] at hno
        have hA := addI_yes hno n []
        have hb1 := hb
        have hzr := hb.size
        have HNO := Lib.hid hno; clear hno; have HQ0 := Lib.hid hq0; clear hq0; have HA := Lib.hid hA; clear hA
        go_wp2_with fail
        refine (copySyntax_calls 1 n s x [] xa xc a cap ms _ hW HI.out (HX.out.below (by (repeat (first | with_reducible assumption | with_reducible exact Below.refl _ _ | with_reducible refine Below.drew ?_ | with_reducible refine belowDrewN ?_ _ | ((with_reducible refine Below.setCell ?_ ?_ _); rotate_left; focus (first | omega | (simp; done) | (simp; omega))) | ((with_reducible refine Below.alloc ?_ ?_ _); rotate_left; focus (first | omega | (simp; done) | (simp; omega))) | ((with_reducible refine Below.trans ?_ (Below.mono hb ?_)); rotate_left; focus (first | omega | (simp; done) | (simp; omega))))))) (HIN.out.below (by (repeat (first | with_reducible assumption | with_reducible exact Below.refl _ _ | with_reducible refine Below.drew ?_ | with_reducible refine belowDrewN ?_ _ | ((with_reducible refine Below.setCell ?_ ?_ _); rotate_left; focus (first | omega | (simp; done) | (simp; omega))) | ((with_reducible refine Below.alloc ?_ ?_ _); rotate_left; focus (first | omega | (simp; done) | (simp; omega))) | ((with_reducible refine Below.trans ?_ (Below.mono hb ?_)); rotate_left; focus (first | omega | (simp; done) | (simp; omega)))))))).mono ?_
        rintro e w2 ⟨xa2, xc2, a2, cap2, ms2, rfl, hi2, hm2, hb2⟩
        have hz2 := hb2.size
        simp only [Syn.k_mk, Syn.n_mk, Syn.s_mk, Syn.x_mk, Syn.ds_mk] at hi2 hm2 ⊢
        have HI2 := Lib.hid hi2; clear hi2; have HM2 := Lib.hid hm2; clear hm2
        go_wp2_with (at_builtin; refine wpList_push (wr := w) rfl _ _ 25 rfl 27 _ 5 80 Try.underlying25 infoSyn rfl (by decide) w0.heap.size b bc mb rfl HM.out hz0 (by (repeat (first | with_reducible assumption | with_reducible exact Below.refl _ _ | with_reducible refine Below.drew ?_ | with_reducible refine belowDrewN ?_ _ | ((with_reducible refine Below.setCell ?_ ?_ _); rotate_left; focus (first | omega | (simp; done) | (simp; omega))) | ((with_reducible refine Below.alloc ?_ ?_ _); rotate_left; focus (first | omega | (simp; done) | (simp; omega))) | ((with_reducible refine Below.trans ?_ (Below.mono hb1 ?_)); rotate_left; focus (first | omega | (simp; done) | (simp; omega))) | ((with_reducible refine Below.trans ?_ (Below.mono hb2 ?_)); rotate_left; focus (first | omega | (simp; done) | (simp; omega)))))) _ (M.ag [.c (.int .i64 1), .c (.int .i64 n), .c (.string s), .sl xa2 xc2 1 3 (intM x), .sl a2 cap2 5 27 ms2]) (by simp [M.cells, M.cellsL, intM_length]) rfl _ (SynOwn_el HM2.out 1 n s) (by first | omega | (simp; omega)) (by simp [go_sem]) (by have := HJL.out; unfold maxLen; omega) (by have := HJL.out; omega) ?_)
        intro a3 cap3 w3 hm3 hb3 hz3 hk3
        have hi3 : Syn.IsL 27 (acc ++ [.mk 1 n s x []]) (mb ++ [(M.ag [.c (.int .i64 1), .c (.int .i64 n), .c (.string s), .sl xa2 xc2 1 3 (intM x), .sl a2 cap2 5 27 ms2])]) := HJ.out.snoc ⟨_, _, _, _, _, rfl, HI2.out⟩
        have hlen3 : (acc ++ [Syn.mk 1 n s x []]).length = acc.length + 1 := by simp
        have hml3 : (mb ++ [(M.ag [.c (.int .i64 1), .c (.int .i64 n), .c (.string s), .sl xa2 xc2 1 3 (intM x), .sl a2 cap2 5 27 ms2])]).length = mb.length + 1 := by simp
        have hone3 : ∀ y ∈ acc ++ [Syn.mk 1 n s x []], y.k = 1 := by
          intro y hy
          rcases List.mem_append.1 hy with hy | hy
          · exact HO.out y hy
          · simp at hy; subst hy; rfl
        have HM3 := Lib.hid hm3; clear hm3; have HI3 := Lib.hid hi3; clear hi3
        have hbw : Below w0.heap.size w0 w3 := by (repeat (first | with_reducible assumption | with_reducible exact Below.refl _ _ | with_reducible refine Below.drew ?_ | with_reducible refine belowDrewN ?_ _ | ((with_reducible refine Below.setCell ?_ ?_ _); rotate_left; focus (first | omega | (simp; done) | (simp; omega))) | ((with_reducible refine Below.alloc ?_ ?_ _); rotate_left; focus (first | omega | (simp; done) | (simp; omega))) | ((with_reducible refine Below.trans ?_ (Below.mono hb1 ?_)); rotate_left; focus (first | omega | (simp; done) | (simp; omega))) | ((with_reducible refine Below.trans ?_ (Below.mono hb2 ?_)); rotate_left; focus (first | omega | (simp; done) | (simp; omega))) | ((with_reducible refine Below.trans ?_ (Below.mono hb3 ?_)); rotate_left; focus (first | omega | (simp; done) | (simp; omega)))))
        go_wp2_with fail
        go_ret
        exact ⟨a3, cap3, _, by first | (rw [hml3]; done) | (rw [hml3]; rfl), by rw [HA.out]; exact HI3.out, HM3.out, hbw⟩
  · have hA := addI_other hk n s x ds acc
    have hkb : (k == 1) = false := by simp [hk]
    rw [hA]
    have HA := Lib.hid hA; clear hA; have HK := Lib.hid hk; clear hk; have HOK := Lib.hid hok; clear hok
    go_wp2_with fail
    go_loopw [1, 31] (fun t i wr => ∃ (j : Nat) (b' : Option Addr) (bc' : Nat) (mc : List M), j ≤ ms.length ∧ i = .int .i64 j ∧ t = .slice b' mc.length bc' ∧ Syn.IsL 27 (idL (ds.take j) (acc)) mc ∧ (M.sl b' bc' 5 27 mc).Mine wr w0.heap.size ∧ Below w0.heap.size w0 wr) (fun _ i _ => ms.length - (intOf i).toNat)
    case atStart => exact ⟨0, b, bc, mb, Nat.zero_le _, rfl, by simp, by rw [List.take_zero, idL_nil]; exact HJ.out, by (exact M.Mine.mono (M.Mine.keep HM.out (fun b hb1 hb2 => by (try simp at hb1); simp (disch := (first | omega | (simp; omega))) only [heapSet, heapNew, heapDrew, heapDrewN])) (by first | omega | (simp; done) | (simp; omega))), by (repeat (first | with_reducible assumption | with_reducible exact Below.refl _ _ | with_reducible refine Below.drew ?_ | with_reducible refine belowDrewN ?_ _ | ((with_reducible refine Below.setCell ?_ ?_ _); rotate_left; focus (first | omega | (simp; done) | (simp; omega))) | ((with_reducible refine Below.alloc ?_ ?_ _); rotate_left; focus (first | omega | (simp; done) | (simp; omega)))))⟩
    case round =>
      obtain ⟨j, b', bc', mc, hj, rfl, rfl, hic, hm', hb⟩ := hrel
      have hz := hb.size
      by_cases hlt : j < ms.length
      · obtain ⟨bb, off, k1, n1, s1, x1, ds1, xa1, xc1, a1, cap1, ms1, rfl, hd, hi1, hx1, hin1, c0, c1, c2, c3, c4⟩ := Syn.elem HIN.out HI.out j hlt
        have hbl := World.block_lt_of_cell? w0 _ c0
        simp only at hbl
        have e0 := (hb.cell (p := ⟨bb, _, none⟩) hbl).trans c0
        have e1 := (hb.cell (p := ⟨bb, _, none⟩) hbl).trans c1
        have e2 := (hb.cell (p := ⟨bb, _, none⟩) hbl).trans c2
        have e3 := (hb.cell (p := ⟨bb, _, none⟩) hbl).trans c3
        have e4 := (hb.cell (p := ⟨bb, _, none⟩) hbl).trans c4
        clear c0 c1 c2 c3 c4
        obtain ⟨ht, hle⟩ := Syn.countL_le ds j _ hd
        have hwt1 := Syn.wt_le hd
        simp only [Syn.wt] at hwt1
        have hsl := idL_length (ds.take j) (acc)
        have hst := idL_take hd (acc)
        have hone := idL_one (ds := ds.take j) HO.out
        rw [idD_mk] at hst
        have hmem := List.mem_of_getElem? hd
        simp only [Syn.count] at hle ht
        generalize hcur : idL (ds.take j) (acc) = cur at *
        have HD := Lib.hid hd; clear hd; have HI1 := Lib.hid hi1; clear hi1; have HX1 := Lib.hid hx1; clear hx1; have HIN1 := Lib.hid hin1; clear hin1; have HM' := Lib.hid hm'; clear hm'; have HMEM := Lib.hid hmem; clear hmem; have HST := Lib.hid hst; clear hst; have HCUR := Lib.hid hcur; clear hcur; have HIC := Lib.hid hic; clear hic; have HONE := Lib.hid hone; clear hone
        go_wp2_with fail
        refine (IH.out k1 n1 s1 x1 ds1 HMEM.out k1 n1 s1 x1 xa1 xc1 a1 cap1 ms1 cur b' bc' mc w0 _ (by have := HOK.out; exact (Syn.ok_mk.1 this).2.2 _ HMEM.out) (by omega) (by omega) HI1.out HX1.out HIN1.out HONE.out HIC.out (by (exact M.Mine.mono (M.Mine.keep HM'.out (fun b hb1 hb2 => by (try simp at hb1); simp (disch := (first | omega | (simp; omega))) only [heapSet, heapNew, heapDrew, heapDrewN])) (by first | omega | (simp; done) | (simp; omega)))) (by (repeat (first | with_reducible assumption | with_reducible exact Below.refl _ _ | with_reducible refine Below.drew ?_ | with_reducible refine belowDrewN ?_ _ | ((with_reducible refine Below.setCell ?_ ?_ _); rotate_left; focus (first | omega | (simp; done) | (simp; omega))) | ((with_reducible refine Below.alloc ?_ ?_ _); rotate_left; focus (first | omega | (simp; done) | (simp; omega))))))).mono ?_
        rintro e w9 ⟨a9, c9, m9, rfl, hi9, hm9, hb9⟩
        go_wp2_with fail
        go_roundw
        case rel => exact ⟨j + 1, a9, c9, m9, by omega, by go_num, by first | rfl | trivial, by rw [HST.out]; exact hi9, hm9, by (repeat (first | with_reducible assumption | with_reducible exact Below.refl _ _ | with_reducible refine Below.drew ?_ | with_reducible refine belowDrewN ?_ _ | ((with_reducible refine Below.setCell ?_ ?_ _); rotate_left; focus (first | omega | (simp; done) | (simp; omega))) | ((with_reducible refine Below.alloc ?_ ?_ _); rotate_left; focus (first | omega | (simp; done) | (simp; omega))) | ((with_reducible refine Below.trans ?_ (Below.mono hb9 ?_)); rotate_left; focus (first | omega | (simp; done) | (simp; omega)))))⟩
        case measure => simp [intOf]; omega
      · have hk2 : j = ms.length := by omega
        subst hk2
        rw [HL.out, List.take_length] at hic
        have HIC := Lib.hid hic; clear hic; have HM' := Lib.hid hm'; clear hm'
        go_wp2_with fail
        go_ret
        exact ⟨b', bc', mc, rfl, HIC.out, HM'.out, by (repeat (first | with_reducible assumption | with_reducible exact Below.refl _ _ | with_reducible refine Below.drew ?_ | with_reducible refine belowDrewN ?_ _ | ((with_reducible refine Below.setCell ?_ ?_ _); rotate_left; focus (first | omega | (simp; done) | (simp; omega))) | ((with_reducible refine Below.alloc ?_ ?_ _); rotate_left; focus (first | omega | (simp; done) | (simp; omega)))))⟩
set_option maxHeartbeats 1000000 in
theorem iIdentifiersIn_calls (k n : Int) (s : ByteArray) (x : List Int) (ds : List Syn) (xa : Option Addr) (xc : Nat) (a : Option Addr) (cap : Nat) (ms : List M) (w : World) (hwf : (Syn.mk k n s x ds).wf) (hcB : Syn.countL ds ≤ 900000000) (hB : s.size + (x.length + (ds.length + Syn.wtX ds)) ≤ 2000000) (hi : Syn.IsL 27 ds ms) (hown : (SynOwn 27 xa xc x a cap ms).In w) :
    Calls Try.prog 26 #[.agg #[.int .i64 k, .int .i64 n, .string s, .slice xa x.length xc, .slice a ms.length cap]] w (RetSyns 27 (idsOf k n s x ds) w) := by
  have hx := SynIn_x hown
  have hin := SynIn_ms hown
  have hcap := hin.len
  have hxl := Ints.len hx
  have HI := Lib.hid hi; clear hi; have HX := Lib.hid hx; clear hx; have HIN := Lib.hid hin; clear hin; have HOWN := Lib.hid hown; clear hown; have HWF := Lib.hid hwf; clear hwf
  go_enter Try.func26, Try.ntmps26
  go_wp2_with fail
  refine (iIsSyntax_calls k n s x ds xa xc a cap ms _ HWF.out (by omega) HI.out (HOWN.out.below (by (repeat (first | with_reducible assumption | with_reducible exact Below.refl _ _ | with_reducible refine Below.drew ?_ | with_reducible refine belowDrewN ?_ _ | ((with_reducible refine Below.setCell ?_ ?_ _); rotate_left; focus (first | omega | (simp; done) | (simp; omega))) | ((with_reducible refine Below.alloc ?_ ?_ _); rotate_left; focus (first | omega | (simp; done) | (simp; omega)))))))).mono ?_
  rintro e w1 ⟨rfl, hb1⟩
  obtain ⟨hc1, hf1⟩ := bcell hb1; have hz1 := hb1.size; (try simp only [World.size_alloc, World.size_setCell, World.size_drew, sizeDrewN] at hz1 hc1 hf1); have hp1_0 : w.heap.size < w1.heap.size := (by omega)
  have hq : SBox w.heap.size k n s (.slice xa x.length xc) (.slice a ms.length cap) w1 := by constructor <;> first | (simp (disch := omega) [hc1, hf1, go_sem]; done) | (simp (disch := omega) [hc1, hf1, go_sem]; rfl)
  obtain ⟨q0, q1, q2, q3, q4, e0, e1, e2, e3, e4⟩ := hq
  clear hc1 hf1
  cases hv : isSynB k n s x ds with
  | true =>
    have hs : idsOf k n s x ds = idL ds (addI k n s x ds []) := by unfold idsOf; rw [if_pos hv]
    have HS := Lib.hid hs; clear hs; have HV := Lib.hid hv; clear hv
    go_wp2_with fail
    refine (collectIdentifiers_calls ds k n s x xa xc a cap ms [] none 0 [] w _ (isSynB_ok' HV.out) (by simp; omega) hB HI.out HX.out HIN.out (by intro y hy; cases hy) rfl (M.Mine.nil _ _ _ _ (by decide)) (by (repeat (first | with_reducible assumption | with_reducible exact Below.refl _ _ | with_reducible refine Below.drew ?_ | with_reducible refine belowDrewN ?_ _ | ((with_reducible refine Below.setCell ?_ ?_ _); rotate_left; focus (first | omega | (simp; done) | (simp; omega))) | ((with_reducible refine Below.alloc ?_ ?_ _); rotate_left; focus (first | omega | (simp; done) | (simp; omega))) | ((with_reducible refine Below.trans ?_ (Below.mono hb1 ?_)); rotate_left; focus (first | omega | (simp; done) | (simp; omega))))))).mono ?_
    rintro e w2 ⟨a2, c2, m2, rfl, hi2, hm2, hb2⟩
    have HM2 := Lib.hid hm2; clear hm2; have HI2 := Lib.hid hi2; clear hi2
    go_wp2_with fail
    go_ret
    exact ⟨a2, c2, m2, rfl, by rw [HS.out]; exact HI2.out, HM2.out, by (repeat (first | with_reducible assumption | with_reducible exact Below.refl _ _ | with_reducible refine Below.drew ?_ | with_reducible refine belowDrewN ?_ _ | ((with_reducible refine Below.setCell ?_ ?_ _); rotate_left; focus (first | omega | (simp; done) | (simp; omega))) | ((with_reducible refine Below.alloc ?_ ?_ _); rotate_left; focus (first | omega | (simp; done) | (simp; omega))) | ((with_reducible refine Below.trans ?_ (Below.mono hb2 ?_)); rotate_left; focus (first | omega | (simp; done) | (simp; omega)))))⟩
  | false =>
    have hs : idsOf k n s x ds = [] := by unfold idsOf; rw [if_neg (by rw [hv]; decide)]
    have HS := Lib.hid hs; clear hs; have HV := Lib.hid hv; clear hv
    go_wp2_with fail
    go_ret
    exact ⟨none, 0, [], rfl, by rw [HS.out]; rfl, M.Mine.nil _ _ _ _ (by decide), by (repeat (first | with_reducible assumption | with_reducible exact Below.refl _ _ | with_reducible refine Below.drew ?_ | with_reducible refine belowDrewN ?_ _ | ((with_reducible refine Below.setCell ?_ ?_ _); rotate_left; focus (first | omega | (simp; done) | (simp; omega))) | ((with_reducible refine Below.alloc ?_ ?_ _); rotate_left; focus (first | omega | (simp; done) | (simp; omega))) | ((with_reducible refine Below.trans ?_ (Below.mono hb1 ?_)); rotate_left; focus (first | omega | (simp; done) | (simp; omega)))))⟩
end Go.Proofs.Ytghbnehocggnnaa

/-
  Walks: EqualSyntax. No condition.
-/
set_option linter.unusedVariables false
set_option linter.unusedSimpArgs false
set_option maxRecDepth 100000
namespace Go.Proofs.Ytghbnehocggnnaa
open Go.RowKit

open Classical in
noncomputable def eqSB (x y : Syn) : Bool := decide (x = y)
theorem eqSB_iff (x y : Syn) : eqSB x y = true ↔ x = y := by simp [eqSB]
theorem eqSB_not (x y : Syn) : eqSB x y = false ↔ ¬ x = y := by simp [eqSB]
def sESs (ds : List Syn) : Prop := ∀ (k n : Int) (s : ByteArray) (x : List Int) (xa : Option Addr) (xc : Nat) (a : Option Addr) (cap : Nat) (ms : List M) (k' n' : Int) (s' : ByteArray) (x' : List Int) (xa' : Option Addr) (xc' : Nat) (a' : Option Addr) (cap' : Nat) (ds' : List Syn) (ms' : List M) (w : World),
    Syn.IsL 27 ds ms → (SynOwn 27 xa xc x a cap ms).In w → Syn.IsL 27 ds' ms' → (SynOwn 27 xa' xc' x' a' cap' ms').In w →
    Calls Try.prog 20 #[.agg #[.int .i64 k, .int .i64 n, .string s, .slice xa x.length xc, .slice a ms.length cap], .agg #[.int .i64 k', .int .i64 n', .string s', .slice xa' x'.length xc', .slice a' ms'.length cap']] w (Ret (.bool (eqSB (.mk k n s x ds) (.mk k' n' s' x' ds'))) w)
theorem sEqualSyntax_calls : ∀ ds, sESs ds := by
  refine Syn.inductL fun ds ih => ?_
  intro k n s x xa xc a cap ms k' n' s' x' xa' xc' a' cap' ds' ms' w hi hown hi' hown'
  have hx := SynIn_x hown
  have hin := SynIn_ms hown
  have hx' := SynIn_x hown'
  have hin' := SynIn_ms hown'
  have hln := hi.length
  have hln' := hi'.length
  have hcapm := hin.len
  have hcapm' := hin'.len
  have hxl := Ints.len hx
  have hxl' := Ints.len hx'
  clear hown hown'
  by_cases hk : k = k'
  · subst hk
    by_cases hn : n = n'
    · subst hn
      by_cases hs : s = s'
      · subst hs
        by_cases hxx : x = x'
        · subst hxx
          have hsx : eqL x x = true := (eqL_iff _ _).2 rfl
          by_cases hl : ms.length = ms'.length
          · have hl' : ((ms.length : Int) != (ms'.length : Int)) = false := by simp [hl]
            have IH := Lib.hid ih; clear ih; have HIN := Lib.hid hin; clear hin; have HI := Lib.hid hi; clear hi; have HIN' := Lib.hid hin'; clear hin'; have HI' := Lib.hid hi'; clear hi'; have HLN := Lib.hid hln; clear hln; have HLN' := Lib.hid hln'; clear hln'; have HL := Lib.hid hl; clear hl; have HX := Lib.hid hx; clear hx; have HX' := Lib.hid hx'; clear hx'
            go_enter Try.func20, Try.ntmps20
            go_wp2_with fail
            refine (l2SameInts_calls xa xc x xa' xc' x _ (HX.out.below (by (repeat (first | with_reducible assumption | with_reducible exact Below.refl _ _ | with_reducible refine Below.drew ?_ | with_reducible refine belowDrewN ?_ _ | ((with_reducible refine Below.setCell ?_ ?_ _); rotate_left; focus (first | omega | (simp; done) | (simp; omega))) | ((with_reducible refine Below.alloc ?_ ?_ _); rotate_left; focus (first | omega | (simp; done) | (simp; omega))))))) (HX'.out.below (by (repeat (first | with_reducible assumption | with_reducible exact Below.refl _ _ | with_reducible refine Below.drew ?_ | with_reducible refine belowDrewN ?_ _ | ((with_reducible refine Below.setCell ?_ ?_ _); rotate_left; focus (first | omega | (simp; done) | (simp; omega))) | ((with_reducible refine Below.alloc ?_ ?_ _); rotate_left; focus (first | omega | (simp; done) | (simp; omega)))))))).mono ?_
            rintro e w0 ⟨rfl, hb0⟩
            obtain ⟨hc0, hf0⟩ := bcell hb0; have hz0 := hb0.size; (try simp only [World.size_alloc, World.size_setCell, World.size_drew, sizeDrewN] at hz0 hc0 hf0); have hp0_0 : w.heap.size < w0.heap.size := (by omega); have hp0_1 : w.heap.size + 1 < w0.heap.size := (by omega)
            go_wp2_with fail
            go_loopw [45] (fun i wr => ∃ j : Nat, j ≤ ms.length ∧ i = .int .i64 j ∧ ds.take j = ds'.take j ∧ wr.cell? ⟨w.heap.size, 4, none⟩ = some (.slice a ms.length cap) ∧ wr.cell? ⟨w.heap.size + 1, 4, none⟩ = some (.slice a' ms'.length cap') ∧ Below w.heap.size w wr ∧ w.heap.size + 1 + 1 ≤ wr.heap.size) (fun i _ => ms.length - (intOf i).toNat)
            case atStart => exact ⟨0, Nat.zero_le _, rfl, by simp, by simp (disch := first | omega | (simp; done)) [hc0, go_sem], by simp (disch := first | omega | (simp; done)) [hc0, go_sem], by (repeat (first | with_reducible assumption | with_reducible exact Below.refl _ _ | with_reducible refine Below.drew ?_ | with_reducible refine belowDrewN ?_ _ | ((with_reducible refine Below.setCell ?_ ?_ _); rotate_left; focus (first | omega | (simp; done) | (simp; omega))) | ((with_reducible refine Below.alloc ?_ ?_ _); rotate_left; focus (first | omega | (simp; done) | (simp; omega))) | ((with_reducible refine Below.trans ?_ (Below.mono hb0 ?_)); rotate_left; focus (first | omega | (simp; done) | (simp; omega))))), by omega⟩
            case round =>
              clear hc0 hf0
              obtain ⟨j, hj, rfl, hpre, q1, q2, hb, hsz⟩ := hrel
              by_cases hlt : j < ms.length
              · have hlt' : j < ms'.length := by have := HL.out; omega
                obtain ⟨b, off, k1, n1, s1, x1, ds1, xa1, xc1, a1, cap1, ms1, rfl, hd, hi1, hx1, hin1, c0, c1, c2, c3, c4⟩ := Syn.elem (HIN.out.below hb) HI.out j hlt
                obtain ⟨b', off', k1', n1', s1', x1', ds1', xa1', xc1', a1', cap1', ms1', rfl, hd', hi1', hx1', hin1', c0', c1', c2', c3', c4'⟩ := Syn.elem (HIN'.out.below hb) HI'.out j hlt'
                have hbl := World.block_lt_of_cell? wr _ c0
                have hbl' := World.block_lt_of_cell? wr _ c0'
                have p1 : w.heap.size < wr.heap.size := by omega
                have p2 : w.heap.size + 1 < wr.heap.size := by omega
                by_cases heq : Syn.mk k1 n1 s1 x1 ds1 = Syn.mk k1' n1' s1' x1' ds1'
                · have hq : eqSB (Syn.mk k1 n1 s1 x1 ds1) (Syn.mk k1' n1' s1' x1' ds1') = true := (eqSB_iff _ _).2 heq
                  have hpre2 := take_eq_succ hpre hd hd' heq
                  have HI1 := Lib.hid hi1; clear hi1; have HIN1 := Lib.hid hin1; clear hin1; have HI1' := Lib.hid hi1'; clear hi1'; have HIN1' := Lib.hid hin1'; clear hin1'; have HD := Lib.hid hd; clear hd; have HD' := Lib.hid hd'; clear hd'; have HPRE := Lib.hid hpre; clear hpre; have HPRE2 := Lib.hid hpre2; clear hpre2; have HEQ := Lib.hid heq; clear heq; have HX1 := Lib.hid hx1; clear hx1; have HX1' := Lib.hid hx1'; clear hx1'
                  go_wp2_with fail
                  go_region_held3 (fun w' => (w'.cell? ⟨w.heap.size, 4, none⟩ = some (.slice (some ⟨b, off, none⟩) ms.length cap) ∧ w'.cell? ⟨w.heap.size + 1, 4, none⟩ = some (.slice (some ⟨b', off', none⟩) ms'.length cap')) ∧ (w'.cell? ⟨b, off + j * 5, none⟩ = some (.int .i64 k1) ∧ w'.cell? ⟨b, off + j * 5 + 1, none⟩ = some (.int .i64 n1) ∧ w'.cell? ⟨b, off + j * 5 + 2, none⟩ = some (.string s1) ∧ w'.cell? ⟨b, off + j * 5 + 3, none⟩ = some (.slice xa1 x1.length xc1) ∧ w'.cell? ⟨b, off + j * 5 + 4, none⟩ = some (.slice a1 ms1.length cap1) ∧ w'.cell? ⟨b', off' + j * 5, none⟩ = some (.int .i64 k1') ∧ w'.cell? ⟨b', off' + j * 5 + 1, none⟩ = some (.int .i64 n1') ∧ w'.cell? ⟨b', off' + j * 5 + 2, none⟩ = some (.string s1') ∧ w'.cell? ⟨b', off' + j * 5 + 3, none⟩ = some (.slice xa1' x1'.length xc1') ∧ w'.cell? ⟨b', off' + j * 5 + 4, none⟩ = some (.slice a1' ms1'.length cap1')))
                    (first | exact ⟨⟨q1, q2⟩, c0, c1, c2, c3, c4, c0', c1', c2', c3', c4'⟩ | exact ⟨⟨(hc1 _ _ p1).trans q1, (hc1 _ _ p2).trans q2⟩, (hc1 _ _ hbl).trans c0, (hc1 _ _ hbl).trans c1, (hc1 _ _ hbl).trans c2, (hc1 _ _ hbl).trans c3, (hc1 _ _ hbl).trans c4, (hc1 _ _ hbl').trans c0', (hc1 _ _ hbl').trans c1', (hc1 _ _ hbl').trans c2', (hc1 _ _ hbl').trans c3', (hc1 _ _ hbl').trans c4'⟩)
                    (first | (go_at_call 20; refine (IH.out k1 n1 s1 x1 ds1 (List.mem_of_getElem? HD.out) k1 n1 s1 x1 xa1 xc1 a1 cap1 ms1 k1' n1' s1' x1' xa1' xc1' a1' cap1' ds1' ms1' _ HI1.out (SynIn_mk (HX1.out.below (by (repeat (first | with_reducible assumption | with_reducible exact Below.refl _ _ | with_reducible refine Below.drew ?_ | with_reducible refine belowDrewN ?_ _ | ((with_reducible refine Below.setCell ?_ ?_ _); rotate_left; focus (first | omega | (simp; done) | (simp; omega))) | ((with_reducible refine Below.alloc ?_ ?_ _); rotate_left; focus (first | omega | (simp; done) | (simp; omega))))))) (HIN1.out.below (by (repeat (first | with_reducible assumption | with_reducible exact Below.refl _ _ | with_reducible refine Below.drew ?_ | with_reducible refine belowDrewN ?_ _ | ((with_reducible refine Below.setCell ?_ ?_ _); rotate_left; focus (first | omega | (simp; done) | (simp; omega))) | ((with_reducible refine Below.alloc ?_ ?_ _); rotate_left; focus (first | omega | (simp; done) | (simp; omega)))))))) HI1'.out (SynIn_mk (HX1'.out.below (by (repeat (first | with_reducible assumption | with_reducible exact Below.refl _ _ | with_reducible refine Below.drew ?_ | with_reducible refine belowDrewN ?_ _ | ((with_reducible refine Below.setCell ?_ ?_ _); rotate_left; focus (first | omega | (simp; done) | (simp; omega))) | ((with_reducible refine Below.alloc ?_ ?_ _); rotate_left; focus (first | omega | (simp; done) | (simp; omega))))))) (HIN1'.out.below (by (repeat (first | with_reducible assumption | with_reducible exact Below.refl _ _ | with_reducible refine Below.drew ?_ | with_reducible refine belowDrewN ?_ _ | ((with_reducible refine Below.setCell ?_ ?_ _); rotate_left; focus (first | omega | (simp; done) | (simp; omega))) | ((with_reducible refine Below.alloc ?_ ?_ _); rotate_left; focus (first | omega | (simp; done) | (simp; omega))))))))).mono ?_; rintro e w1 ⟨rfl, hb1⟩; obtain ⟨hc1, hf1⟩ := bcell hb1))
                  have hz1 := hb1.size
                  simp only [World.size_drew] at hz1
                  have q1' := (hc1 _ _ p1).trans q1
                  have q2' := (hc1 _ _ p2).trans q2
                  go_wp2_with fail
                  go_roundw
                  case rel => exact ⟨j + 1, by omega, by go_num, HPRE2.out, q1', q2', by (repeat (first | with_reducible assumption | with_reducible exact Below.refl _ _ | with_reducible refine Below.drew ?_ | with_reducible refine belowDrewN ?_ _ | ((with_reducible refine Below.setCell ?_ ?_ _); rotate_left; focus (first | omega | (simp; done) | (simp; omega))) | ((with_reducible refine Below.alloc ?_ ?_ _); rotate_left; focus (first | omega | (simp; done) | (simp; omega))) | ((with_reducible refine Below.trans ?_ (Below.mono hb1 ?_)); rotate_left; focus (first | omega | (simp; done) | (simp; omega))))), by omega⟩
                  case measure => simp [intOf]; omega
                · have hq : eqSB (Syn.mk k1 n1 s1 x1 ds1) (Syn.mk k1' n1' s1' x1' ds1') = false := (eqSB_not _ _).2 heq
                  have hne := ne_of_get hd hd' heq
                  have HI1 := Lib.hid hi1; clear hi1; have HIN1 := Lib.hid hin1; clear hin1; have HI1' := Lib.hid hi1'; clear hi1'; have HIN1' := Lib.hid hin1'; clear hin1'; have HD := Lib.hid hd; clear hd; have HD' := Lib.hid hd'; clear hd'; have HPRE := Lib.hid hpre; clear hpre; have HNE := Lib.hid hne; clear hne; have HEQ := Lib.hid heq; clear heq; have HX1 := Lib.hid hx1; clear hx1; have HX1' := Lib.hid hx1'; clear hx1'
                  go_wp2_with fail
                  go_region_held3 (fun w' => (w'.cell? ⟨w.heap.size, 4, none⟩ = some (.slice (some ⟨b, off, none⟩) ms.length cap) ∧ w'.cell? ⟨w.heap.size + 1, 4, none⟩ = some (.slice (some ⟨b', off', none⟩) ms'.length cap')) ∧ (w'.cell? ⟨b, off + j * 5, none⟩ = some (.int .i64 k1) ∧ w'.cell? ⟨b, off + j * 5 + 1, none⟩ = some (.int .i64 n1) ∧ w'.cell? ⟨b, off + j * 5 + 2, none⟩ = some (.string s1) ∧ w'.cell? ⟨b, off + j * 5 + 3, none⟩ = some (.slice xa1 x1.length xc1) ∧ w'.cell? ⟨b, off + j * 5 + 4, none⟩ = some (.slice a1 ms1.length cap1) ∧ w'.cell? ⟨b', off' + j * 5, none⟩ = some (.int .i64 k1') ∧ w'.cell? ⟨b', off' + j * 5 + 1, none⟩ = some (.int .i64 n1') ∧ w'.cell? ⟨b', off' + j * 5 + 2, none⟩ = some (.string s1') ∧ w'.cell? ⟨b', off' + j * 5 + 3, none⟩ = some (.slice xa1' x1'.length xc1') ∧ w'.cell? ⟨b', off' + j * 5 + 4, none⟩ = some (.slice a1' ms1'.length cap1')))
                    (first | exact ⟨⟨q1, q2⟩, c0, c1, c2, c3, c4, c0', c1', c2', c3', c4'⟩ | exact ⟨⟨(hc1 _ _ p1).trans q1, (hc1 _ _ p2).trans q2⟩, (hc1 _ _ hbl).trans c0, (hc1 _ _ hbl).trans c1, (hc1 _ _ hbl).trans c2, (hc1 _ _ hbl).trans c3, (hc1 _ _ hbl).trans c4, (hc1 _ _ hbl').trans c0', (hc1 _ _ hbl').trans c1', (hc1 _ _ hbl').trans c2', (hc1 _ _ hbl').trans c3', (hc1 _ _ hbl').trans c4'⟩)
                    (first | (go_at_call 20; refine (IH.out k1 n1 s1 x1 ds1 (List.mem_of_getElem? HD.out) k1 n1 s1 x1 xa1 xc1 a1 cap1 ms1 k1' n1' s1' x1' xa1' xc1' a1' cap1' ds1' ms1' _ HI1.out (SynIn_mk (HX1.out.below (by (repeat (first | with_reducible assumption | with_reducible exact Below.refl _ _ | with_reducible refine Below.drew ?_ | with_reducible refine belowDrewN ?_ _ | ((with_reducible refine Below.setCell ?_ ?_ _); rotate_left; focus (first | omega | (simp; done) | (simp; omega))) | ((with_reducible refine Below.alloc ?_ ?_ _); rotate_left; focus (first | omega | (simp; done) | (simp; omega))))))) (HIN1.out.below (by (repeat (first | with_reducible assumption | with_reducible exact Below.refl _ _ | with_reducible refine Below.drew ?_ | with_reducible refine belowDrewN ?_ _ | ((with_reducible refine Below.setCell ?_ ?_ _); rotate_left; focus (first | omega | (simp; done) | (simp; omega))) | ((with_reducible refine Below.alloc ?_ ?_ _); rotate_left; focus (first | omega | (simp; done) | (simp; omega)))))))) HI1'.out (SynIn_mk (HX1'.out.below (by (repeat (first | with_reducible assumption | with_reducible exact Below.refl _ _ | with_reducible refine Below.drew ?_ | with_reducible refine belowDrewN ?_ _ | ((with_reducible refine Below.setCell ?_ ?_ _); rotate_left; focus (first | omega | (simp; done) | (simp; omega))) | ((with_reducible refine Below.alloc ?_ ?_ _); rotate_left; focus (first | omega | (simp; done) | (simp; omega))))))) (HIN1'.out.below (by (repeat (first | with_reducible assumption | with_reducible exact Below.refl _ _ | with_reducible refine Below.drew ?_ | with_reducible refine belowDrewN ?_ _ | ((with_reducible refine Below.setCell ?_ ?_ _); rotate_left; focus (first | omega | (simp; done) | (simp; omega))) | ((with_reducible refine Below.alloc ?_ ?_ _); rotate_left; focus (first | omega | (simp; done) | (simp; omega))))))))).mono ?_; rintro e w1 ⟨rfl, hb1⟩; obtain ⟨hc1, hf1⟩ := bcell hb1))
                  go_wp2_with fail
                  go_ret
                  exact ⟨ret_b ((eqSB_not _ _).2 (by intro e; simp only [Syn.mk.injEq] at e; exact HNE.out e.2.2.2.2)).symm, by (repeat (first | with_reducible assumption | with_reducible exact Below.refl _ _ | with_reducible refine Below.drew ?_ | with_reducible refine belowDrewN ?_ _ | ((with_reducible refine Below.setCell ?_ ?_ _); rotate_left; focus (first | omega | (simp; done) | (simp; omega))) | ((with_reducible refine Below.alloc ?_ ?_ _); rotate_left; focus (first | omega | (simp; done) | (simp; omega))) | ((with_reducible refine Below.trans ?_ (Below.mono hb1 ?_)); rotate_left; focus (first | omega | (simp; done) | (simp; omega)))))⟩
              · go_wp2_with fail
                go_ret
                have hj2 : j = ms.length := by omega
                subst hj2
                refine ⟨ret_b ((eqSB_iff _ _).2 ?_).symm, hb⟩
                have hpre' := hpre
                rw [HLN.out, List.take_length, ← HLN.out, HL.out, HLN'.out, List.take_length] at hpre'
                rw [hpre']
          · have hl' : ((ms.length : Int) != (ms'.length : Int)) = true := by simp; omega
            have IH := Lib.hid ih; clear ih; have HIN := Lib.hid hin; clear hin; have HI := Lib.hid hi; clear hi; have HIN' := Lib.hid hin'; clear hin'; have HI' := Lib.hid hi'; clear hi'; have HLN := Lib.hid hln; clear hln; have HLN' := Lib.hid hln'; clear hln'; have HL := Lib.hid hl; clear hl; have HX := Lib.hid hx; clear hx; have HX' := Lib.hid hx'; clear hx'
            go_enter Try.func20, Try.ntmps20
            go_wp2_with fail
            refine (l2SameInts_calls xa xc x xa' xc' x _ (HX.out.below (by (repeat (first | with_reducible assumption | with_reducible exact Below.refl _ _ | with_reducible refine Below.drew ?_ | with_reducible refine belowDrewN ?_ _ | ((with_reducible refine Below.setCell ?_ ?_ _); rotate_left; focus (first | omega | (simp; done) | (simp; omega))) | ((with_reducible refine Below.alloc ?_ ?_ _); rotate_left; focus (first | omega | (simp; done) | (simp; omega))))))) (HX'.out.below (by (repeat (first | with_reducible assumption | with_reducible exact Below.refl _ _ | with_reducible refine Below.drew ?_ | with_reducible refine belowDrewN ?_ _ | ((with_reducible refine Below.setCell ?_ ?_ _); rotate_left; focus (first | omega | (simp; done) | (simp; omega))) | ((with_reducible refine Below.alloc ?_ ?_ _); rotate_left; focus (first | omega | (simp; done) | (simp; omega)))))))).mono ?_
            rintro e w0 ⟨rfl, hb0⟩
            obtain ⟨hc0, hf0⟩ := bcell hb0; have hz0 := hb0.size; (try simp only [World.size_alloc, World.size_setCell, World.size_drew, sizeDrewN] at hz0 hc0 hf0); have hp0_0 : w.heap.size < w0.heap.size := (by omega); have hp0_1 : w.heap.size + 1 < w0.heap.size := (by omega)
            go_wp2_with fail
            go_ret
            exact ⟨ret_b ((eqSB_not _ _).2 (by intro e; simp only [Syn.mk.injEq] at e; exact HL.out (by rw [HLN.out, HLN'.out, e.2.2.2.2]))).symm, by (repeat (first | with_reducible assumption | with_reducible exact Below.refl _ _ | with_reducible refine Below.drew ?_ | with_reducible refine belowDrewN ?_ _ | ((with_reducible refine Below.setCell ?_ ?_ _); rotate_left; focus (first | omega | (simp; done) | (simp; omega))) | ((with_reducible refine Below.alloc ?_ ?_ _); rotate_left; focus (first | omega | (simp; done) | (simp; omega))) | ((with_reducible refine Below.trans ?_ (Below.mono hb0 ?_)); rotate_left; focus (first | omega | (simp; done) | (simp; omega)))))⟩
        · have hsx : eqL x x' = false := (eqL_not _ _).2 hxx
          have IH := Lib.hid ih; clear ih; have HIN := Lib.hid hin; clear hin; have HI := Lib.hid hi; clear hi; have HIN' := Lib.hid hin'; clear hin'; have HI' := Lib.hid hi'; clear hi'; have HLN := Lib.hid hln; clear hln; have HLN' := Lib.hid hln'; clear hln'; have HXX := Lib.hid hxx; clear hxx; have HX := Lib.hid hx; clear hx; have HX' := Lib.hid hx'; clear hx'
          go_enter Try.func20, Try.ntmps20
          go_wp2_with fail
          refine (l2SameInts_calls xa xc x xa' xc' x' _ (HX.out.below (by (repeat (first | with_reducible assumption | with_reducible exact Below.refl _ _ | with_reducible refine Below.drew ?_ | with_reducible refine belowDrewN ?_ _ | ((with_reducible refine Below.setCell ?_ ?_ _); rotate_left; focus (first | omega | (simp; done) | (simp; omega))) | ((with_reducible refine Below.alloc ?_ ?_ _); rotate_left; focus (first | omega | (simp; done) | (simp; omega))))))) (HX'.out.below (by (repeat (first | with_reducible assumption | with_reducible exact Below.refl _ _ | with_reducible refine Below.drew ?_ | with_reducible refine belowDrewN ?_ _ | ((with_reducible refine Below.setCell ?_ ?_ _); rotate_left; focus (first | omega | (simp; done) | (simp; omega))) | ((with_reducible refine Below.alloc ?_ ?_ _); rotate_left; focus (first | omega | (simp; done) | (simp; omega)))))))).mono ?_
          rintro e w0 ⟨rfl, hb0⟩
          obtain ⟨hc0, hf0⟩ := bcell hb0; have hz0 := hb0.size; (try simp only [World.size_alloc, World.size_setCell, World.size_drew, sizeDrewN] at hz0 hc0 hf0); have hp0_0 : w.heap.size < w0.heap.size := (by omega); have hp0_1 : w.heap.size + 1 < w0.heap.size := (by omega)
          go_wp2_with fail
          go_ret
          exact ⟨ret_b ((eqSB_not _ _).2 (by intro e; simp only [Syn.mk.injEq] at e; exact HXX.out e.2.2.2.1)).symm, by (repeat (first | with_reducible assumption | with_reducible exact Below.refl _ _ | with_reducible refine Below.drew ?_ | with_reducible refine belowDrewN ?_ _ | ((with_reducible refine Below.setCell ?_ ?_ _); rotate_left; focus (first | omega | (simp; done) | (simp; omega))) | ((with_reducible refine Below.alloc ?_ ?_ _); rotate_left; focus (first | omega | (simp; done) | (simp; omega))) | ((with_reducible refine Below.trans ?_ (Below.mono hb0 ?_)); rotate_left; focus (first | omega | (simp; done) | (simp; omega)))))⟩
      · have hb := ba_ne hs
        have IH := Lib.hid ih; clear ih; have HIN := Lib.hid hin; clear hin; have HI := Lib.hid hi; clear hi; have HIN' := Lib.hid hin'; clear hin'; have HI' := Lib.hid hi'; clear hi'; have HLN := Lib.hid hln; clear hln; have HLN' := Lib.hid hln'; clear hln'; have HS := Lib.hid hs; clear hs; have HX := Lib.hid hx; clear hx; have HX' := Lib.hid hx'; clear hx'
        go_enter Try.func20, Try.ntmps20
        go_wp2_with fail
        go_ret
        exact ⟨ret_b ((eqSB_not _ _).2 (by intro e; simp only [Syn.mk.injEq] at e; exact HS.out e.2.2.1)).symm, by (repeat (first | with_reducible assumption | with_reducible exact Below.refl _ _ | with_reducible refine Below.drew ?_ | with_reducible refine belowDrewN ?_ _ | ((with_reducible refine Below.setCell ?_ ?_ _); rotate_left; focus (first | omega | (simp; done) | (simp; omega))) | ((with_reducible refine Below.alloc ?_ ?_ _); rotate_left; focus (first | omega | (simp; done) | (simp; omega)))))⟩
    · have hb : (n != n') = true := by simp [hn]
      have IH := Lib.hid ih; clear ih; have HIN := Lib.hid hin; clear hin; have HI := Lib.hid hi; clear hi; have HIN' := Lib.hid hin'; clear hin'; have HI' := Lib.hid hi'; clear hi'; have HLN := Lib.hid hln; clear hln; have HLN' := Lib.hid hln'; clear hln'; have HN := Lib.hid hn; clear hn; have HX := Lib.hid hx; clear hx; have HX' := Lib.hid hx'; clear hx'
      go_enter Try.func20, Try.ntmps20
      go_wp2_with fail
      go_ret
      exact ⟨ret_b ((eqSB_not _ _).2 (by intro e; simp only [Syn.mk.injEq] at e; exact HN.out e.2.1)).symm, by (repeat (first | with_reducible assumption | with_reducible exact Below.refl _ _ | with_reducible refine Below.drew ?_ | with_reducible refine belowDrewN ?_ _ | ((with_reducible refine Below.setCell ?_ ?_ _); rotate_left; focus (first | omega | (simp; done) | (simp; omega))) | ((with_reducible refine Below.alloc ?_ ?_ _); rotate_left; focus (first | omega | (simp; done) | (simp; omega)))))⟩
  · have hb : (k != k') = true := by simp [hk]
    have IH := Lib.hid ih; clear ih; have HIN := Lib.hid hin; clear hin; have HI := Lib.hid hi; clear hi; have HIN' := Lib.hid hin'; clear hin'; have HI' := Lib.hid hi'; clear hi'; have HLN := Lib.hid hln; clear hln; have HLN' := Lib.hid hln'; clear hln'; have HK := Lib.hid hk; clear hk; have HX := Lib.hid hx; clear hx; have HX' := Lib.hid hx'; clear hx'
    go_enter Try.func20, Try.ntmps20
    go_wp2_with fail
    go_ret
    exact ⟨ret_b ((eqSB_not _ _).2 (by intro e; simp only [Syn.mk.injEq] at e; exact HK.out e.1)).symm, by (repeat (first | with_reducible assumption | with_reducible exact Below.refl _ _ | with_reducible refine Below.drew ?_ | with_reducible refine belowDrewN ?_ _ | ((with_reducible refine Below.setCell ?_ ?_ _); rotate_left; focus (first | omega | (simp; done) | (simp; omega))) | ((with_reducible refine Below.alloc ?_ ?_ _); rotate_left; focus (first | omega | (simp; done) | (simp; omega)))))⟩
def iESs (ds : List Syn) : Prop := ∀ (k n : Int) (s : ByteArray) (x : List Int) (xa : Option Addr) (xc : Nat) (a : Option Addr) (cap : Nat) (ms : List M) (k' n' : Int) (s' : ByteArray) (x' : List Int) (xa' : Option Addr) (xc' : Nat) (a' : Option Addr) (cap' : Nat) (ds' : List Syn) (ms' : List M) (w : World),
    Syn.IsL 27 ds ms → (SynOwn 27 xa xc x a cap ms).In w → Syn.IsL 27 ds' ms' → (SynOwn 27 xa' xc' x' a' cap' ms').In w →
    Calls Try.prog 21 #[.agg #[.int .i64 k, .int .i64 n, .string s, .slice xa x.length xc, .slice a ms.length cap], .agg #[.int .i64 k', .int .i64 n', .string s', .slice xa' x'.length xc', .slice a' ms'.length cap']] w (Ret (.bool (eqSB (.mk k n s x ds) (.mk k' n' s' x' ds'))) w)
theorem iEqualSyntax_calls : ∀ ds, iESs ds := by
  refine Syn.inductL fun ds ih => ?_
  intro k n s x xa xc a cap ms k' n' s' x' xa' xc' a' cap' ds' ms' w hi hown hi' hown'
  have hx := SynIn_x hown
  have hin := SynIn_ms hown
  have hx' := SynIn_x hown'
  have hin' := SynIn_ms hown'
  have hln := hi.length
  have hln' := hi'.length
  have hcapm := hin.len
  have hcapm' := hin'.len
  have hxl := Ints.len hx
  have hxl' := Ints.len hx'
  clear hown hown'
  by_cases hk : k = k'
  · subst hk
    by_cases hn : n = n'
    · subst hn
      by_cases hs : s = s'
      · subst hs
        by_cases hxx : x = x'
        · subst hxx
          have hsx : eqL x x = true := (eqL_iff _ _).2 rfl
          by_cases hl : ms.length = ms'.length
          · have hl' : ((ms.length : Int) != (ms'.length : Int)) = false := by simp [hl]
            have IH := Lib.hid ih; clear ih; have HIN := Lib.hid hin; clear hin; have HI := Lib.hid hi; clear hi; have HIN' := Lib.hid hin'; clear hin'; have HI' := Lib.hid hi'; clear hi'; have HLN := Lib.hid hln; clear hln; have HLN' := Lib.hid hln'; clear hln'; have HL := Lib.hid hl; clear hl; have HX := Lib.hid hx; clear hx; have HX' := Lib.hid hx'; clear hx'
            go_enter Try.func21, Try.ntmps21
            go_wp2_with fail
            refine (sameInts_calls xa xc x xa' xc' x _ (HX.out.below (by (repeat (first | with_reducible assumption | with_reducible exact Below.refl _ _ | with_reducible refine Below.drew ?_ | with_reducible refine belowDrewN ?_ _ | ((with_reducible refine Below.setCell ?_ ?_ _); rotate_left; focus (first | omega | (simp; done) | (simp; omega))) | ((with_reducible refine Below.alloc ?_ ?_ _); rotate_left; focus (first | omega | (simp; done) | (simp; omega))))))) (HX'.out.below (by (repeat (first | with_reducible assumption | with_reducible exact Below.refl _ _ | with_reducible refine Below.drew ?_ | with_reducible refine belowDrewN ?_ _ | ((with_reducible refine Below.setCell ?_ ?_ _); rotate_left; focus (first | omega | (simp; done) | (simp; omega))) | ((with_reducible refine Below.alloc ?_ ?_ _); rotate_left; focus (first | omega | (simp; done) | (simp; omega)))))))).mono ?_
            rintro e w0 ⟨rfl, hb0⟩
            obtain ⟨hc0, hf0⟩ := bcell hb0; have hz0 := hb0.size; (try simp only [World.size_alloc, World.size_setCell, World.size_drew, sizeDrewN] at hz0 hc0 hf0); have hp0_0 : w.heap.size < w0.heap.size := (by omega); have hp0_1 : w.heap.size + 1 < w0.heap.size := (by omega)
            go_wp2_with fail
            go_loopw [45] (fun i wr => ∃ j : Nat, j ≤ ms.length ∧ i = .int .i64 j ∧ ds.take j = ds'.take j ∧ wr.cell? ⟨w.heap.size, 4, none⟩ = some (.slice a ms.length cap) ∧ wr.cell? ⟨w.heap.size + 1, 4, none⟩ = some (.slice a' ms'.length cap') ∧ Below w.heap.size w wr ∧ w.heap.size + 1 + 1 ≤ wr.heap.size) (fun i _ => ms.length - (intOf i).toNat)
            case atStart => exact ⟨0, Nat.zero_le _, rfl, by simp, by simp (disch := first | omega | (simp; done)) [hc0, go_sem], by simp (disch := first | omega | (simp; done)) [hc0, go_sem], by (repeat (first | with_reducible assumption | with_reducible exact Below.refl _ _ | with_reducible refine Below.drew ?_ | with_reducible refine belowDrewN ?_ _ | ((with_reducible refine Below.setCell ?_ ?_ _); rotate_left; focus (first | omega | (simp; done) | (simp; omega))) | ((with_reducible refine Below.alloc ?_ ?_ _); rotate_left; focus (first | omega | (simp; done) | (simp; omega))) | ((with_reducible refine Below.trans ?_ (Below.mono hb0 ?_)); rotate_left; focus (first | omega | (simp; done) | (simp; omega))))), by omega⟩
            case round =>
              clear hc0 hf0
              obtain ⟨j, hj, rfl, hpre, q1, q2, hb, hsz⟩ := hrel
              by_cases hlt : j < ms.length
              · have hlt' : j < ms'.length := by have := HL.out; omega
                obtain ⟨b, off, k1, n1, s1, x1, ds1, xa1, xc1, a1, cap1, ms1, rfl, hd, hi1, hx1, hin1, c0, c1, c2, c3, c4⟩ := Syn.elem (HIN.out.below hb) HI.out j hlt
                obtain ⟨b', off', k1', n1', s1', x1', ds1', xa1', xc1', a1', cap1', ms1', rfl, hd', hi1', hx1', hin1', c0', c1', c2', c3', c4'⟩ := Syn.elem (HIN'.out.below hb) HI'.out j hlt'
                have hbl := World.block_lt_of_cell? wr _ c0
                have hbl' := World.block_lt_of_cell? wr _ c0'
                have p1 : w.heap.size < wr.heap.size := by omega
                have p2 : w.heap.size + 1 < wr.heap.size := by omega
                by_cases heq : Syn.mk k1 n1 s1 x1 ds1 = Syn.mk k1' n1' s1' x1' ds1'
                · have hq : eqSB (Syn.mk k1 n1 s1 x1 ds1) (Syn.mk k1' n1' s1' x1' ds1') = true := (eqSB_iff _ _).2 heq
                  have hpre2 := take_eq_succ hpre hd hd' heq
                  have HI1 := Lib.hid hi1; clear hi1; have HIN1 := Lib.hid hin1; clear hin1; have HI1' := Lib.hid hi1'; clear hi1'; have HIN1' := Lib.hid hin1'; clear hin1'; have HD := Lib.hid hd; clear hd; have HD' := Lib.hid hd'; clear hd'; have HPRE := Lib.hid hpre; clear hpre; have HPRE2 := Lib.hid hpre2; clear hpre2; have HEQ := Lib.hid heq; clear heq; have HX1 := Lib.hid hx1; clear hx1; have HX1' := Lib.hid hx1'; clear hx1'
                  go_wp2_with fail
                  go_region_held3 (fun w' => (w'.cell? ⟨w.heap.size, 4, none⟩ = some (.slice (some ⟨b, off, none⟩) ms.length cap) ∧ w'.cell? ⟨w.heap.size + 1, 4, none⟩ = some (.slice (some ⟨b', off', none⟩) ms'.length cap')) ∧ (w'.cell? ⟨b, off + j * 5, none⟩ = some (.int .i64 k1) ∧ w'.cell? ⟨b, off + j * 5 + 1, none⟩ = some (.int .i64 n1) ∧ w'.cell? ⟨b, off + j * 5 + 2, none⟩ = some (.string s1) ∧ w'.cell? ⟨b, off + j * 5 + 3, none⟩ = some (.slice xa1 x1.length xc1) ∧ w'.cell? ⟨b, off + j * 5 + 4, none⟩ = some (.slice a1 ms1.length cap1) ∧ w'.cell? ⟨b', off' + j * 5, none⟩ = some (.int .i64 k1') ∧ w'.cell? ⟨b', off' + j * 5 + 1, none⟩ = some (.int .i64 n1') ∧ w'.cell? ⟨b', off' + j * 5 + 2, none⟩ = some (.string s1') ∧ w'.cell? ⟨b', off' + j * 5 + 3, none⟩ = some (.slice xa1' x1'.length xc1') ∧ w'.cell? ⟨b', off' + j * 5 + 4, none⟩ = some (.slice a1' ms1'.length cap1')))
                    (first | exact ⟨⟨q1, q2⟩, c0, c1, c2, c3, c4, c0', c1', c2', c3', c4'⟩ | exact ⟨⟨(hc1 _ _ p1).trans q1, (hc1 _ _ p2).trans q2⟩, (hc1 _ _ hbl).trans c0, (hc1 _ _ hbl).trans c1, (hc1 _ _ hbl).trans c2, (hc1 _ _ hbl).trans c3, (hc1 _ _ hbl).trans c4, (hc1 _ _ hbl').trans c0', (hc1 _ _ hbl').trans c1', (hc1 _ _ hbl').trans c2', (hc1 _ _ hbl').trans c3', (hc1 _ _ hbl').trans c4'⟩)
                    (first | (go_at_call 21; refine (IH.out k1 n1 s1 x1 ds1 (List.mem_of_getElem? HD.out) k1 n1 s1 x1 xa1 xc1 a1 cap1 ms1 k1' n1' s1' x1' xa1' xc1' a1' cap1' ds1' ms1' _ HI1.out (SynIn_mk (HX1.out.below (by (repeat (first | with_reducible assumption | with_reducible exact Below.refl _ _ | with_reducible refine Below.drew ?_ | with_reducible refine belowDrewN ?_ _ | ((with_reducible refine Below.setCell ?_ ?_ _); rotate_left; focus (first | omega | (simp; done) | (simp; omega))) | ((with_reducible refine Below.alloc ?_ ?_ _); rotate_left; focus (first | omega | (simp; done) | (simp; omega))))))) (HIN1.out.below (by (repeat (first | with_reducible assumption | with_reducible exact Below.refl _ _ | with_reducible refine Below.drew ?_ | with_reducible refine belowDrewN ?_ _ | ((with_reducible refine Below.setCell ?_ ?_ _); rotate_left; focus (first | omega | (simp; done) | (simp; omega))) | ((with_reducible refine Below.alloc ?_ ?_ _); rotate_left; focus (first | omega | (simp; done) | (simp; omega)))))))) HI1'.out (SynIn_mk (HX1'.out.below (by (repeat (first | with_reducible assumption | with_reducible exact Below.refl _ _ | with_reducible refine Below.drew ?_ | with_reducible refine belowDrewN ?_ _ | ((with_reducible refine Below.setCell ?_ ?_ _); rotate_left; focus (first | omega | (simp; done) | (simp; omega))) | ((with_reducible refine Below.alloc ?_ ?_ _); rotate_left; focus (first | omega | (simp; done) | (simp; omega))))))) (HIN1'.out.below (by (repeat (first | with_reducible assumption | with_reducible exact Below.refl _ _ | with_reducible refine Below.drew ?_ | with_reducible refine belowDrewN ?_ _ | ((with_reducible refine Below.setCell ?_ ?_ _); rotate_left; focus (first | omega | (simp; done) | (simp; omega))) | ((with_reducible refine Below.alloc ?_ ?_ _); rotate_left; focus (first | omega | (simp; done) | (simp; omega))))))))).mono ?_; rintro e w1 ⟨rfl, hb1⟩; obtain ⟨hc1, hf1⟩ := bcell hb1))
                  have hz1 := hb1.size
                  simp only [World.size_drew] at hz1
                  have q1' := (hc1 _ _ p1).trans q1
                  have q2' := (hc1 _ _ p2).trans q2
                  go_wp2_with fail
                  go_roundw
                  case rel => exact ⟨j + 1, by omega, by go_num, HPRE2.out, q1', q2', by (repeat (first | with_reducible assumption | with_reducible exact Below.refl _ _ | with_reducible refine Below.drew ?_ | with_reducible refine belowDrewN ?_ _ | ((with_reducible refine Below.setCell ?_ ?_ _); rotate_left; focus (first | omega | (simp; done) | (simp; omega))) | ((with_reducible refine Below.alloc ?_ ?_ _); rotate_left; focus (first | omega | (simp; done) | (simp; omega))) | ((with_reducible refine Below.trans ?_ (Below.mono hb1 ?_)); rotate_left; focus (first | omega | (simp; done) | (simp; omega))))), by omega⟩
                  case measure => simp [intOf]; omega
                · have hq : eqSB (Syn.mk k1 n1 s1 x1 ds1) (Syn.mk k1' n1' s1' x1' ds1') = false := (eqSB_not _ _).2 heq
                  have hne := ne_of_get hd hd' heq
                  have HI1 := Lib.hid hi1; clear hi1; have HIN1 := Lib.hid hin1; clear hin1; have HI1' := Lib.hid hi1'; clear hi1'; have HIN1' := Lib.hid hin1'; clear hin1'; have HD := Lib.hid hd; clear hd; have HD' := Lib.hid hd'; clear hd'; have HPRE := Lib.hid hpre; clear hpre; have HNE := Lib.hid hne; clear hne; have HEQ := Lib.hid heq; clear heq; have HX1 := Lib.hid hx1; clear hx1; have HX1' := Lib.hid hx1'; clear hx1'
                  go_wp2_with fail
                  go_region_held3 (fun w' => (w'.cell? ⟨w.heap.size, 4, none⟩ = some (.slice (some ⟨b, off, none⟩) ms.length cap) ∧ w'.cell? ⟨w.heap.size + 1, 4, none⟩ = some (.slice (some ⟨b', off', none⟩) ms'.length cap')) ∧ (w'.cell? ⟨b, off + j * 5, none⟩ = some (.int .i64 k1) ∧ w'.cell? ⟨b, off + j * 5 + 1, none⟩ = some (.int .i64 n1) ∧ w'.cell? ⟨b, off + j * 5 + 2, none⟩ = some (.string s1) ∧ w'.cell? ⟨b, off + j * 5 + 3, none⟩ = some (.slice xa1 x1.length xc1) ∧ w'.cell? ⟨b, off + j * 5 + 4, none⟩ = some (.slice a1 ms1.length cap1) ∧ w'.cell? ⟨b', off' + j * 5, none⟩ = some (.int .i64 k1') ∧ w'.cell? ⟨b', off' + j * 5 + 1, none⟩ = some (.int .i64 n1') ∧ w'.cell? ⟨b', off' + j * 5 + 2, none⟩ = some (.string s1') ∧ w'.cell? ⟨b', off' + j * 5 + 3, none⟩ = some (.slice xa1' x1'.length xc1') ∧ w'.cell? ⟨b', off' + j * 5 + 4, none⟩ = some (.slice a1' ms1'.length cap1')))
                    (first | exact ⟨⟨q1, q2⟩, c0, c1, c2, c3, c4, c0', c1', c2', c3', c4'⟩ | exact ⟨⟨(hc1 _ _ p1).trans q1, (hc1 _ _ p2).trans q2⟩, (hc1 _ _ hbl).trans c0, (hc1 _ _ hbl).trans c1, (hc1 _ _ hbl).trans c2, (hc1 _ _ hbl).trans c3, (hc1 _ _ hbl).trans c4, (hc1 _ _ hbl').trans c0', (hc1 _ _ hbl').trans c1', (hc1 _ _ hbl').trans c2', (hc1 _ _ hbl').trans c3', (hc1 _ _ hbl').trans c4'⟩)
                    (first | (go_at_call 21; refine (IH.out k1 n1 s1 x1 ds1 (List.mem_of_getElem? HD.out) k1 n1 s1 x1 xa1 xc1 a1 cap1 ms1 k1' n1' s1' x1' xa1' xc1' a1' cap1' ds1' ms1' _ HI1.out (SynIn_mk (HX1.out.below (by (repeat (first | with_reducible assumption | with_reducible exact Below.refl _ _ | with_reducible refine Below.drew ?_ | with_reducible refine belowDrewN ?_ _ | ((with_reducible refine Below.setCell ?_ ?_ _); rotate_left; focus (first | omega | (simp; done) | (simp; omega))) | ((with_reducible refine Below.alloc ?_ ?_ _); rotate_left; focus (first | omega | (simp; done) | (simp; omega))))))) (HIN1.out.below (by (repeat (first | with_reducible assumption | with_reducible exact Below.refl _ _ | with_reducible refine Below.drew ?_ | with_reducible refine belowDrewN ?_ _ | ((with_reducible refine Below.setCell ?_ ?_ _); rotate_left; focus (first | omega | (simp; done) | (simp; omega))) | ((with_reducible refine Below.alloc ?_ ?_ _); rotate_left; focus (first | omega | (simp; done) | (simp; omega)))))))) HI1'.out (SynIn_mk (HX1'.out.below (by (repeat (first | with_reducible assumption | with_reducible exact Below.refl _ _ | with_reducible refine Below.drew ?_ | with_reducible refine belowDrewN ?_ _ | ((with_reducible refine Below.setCell ?_ ?_ _); rotate_left; focus (first | omega | (simp; done) | (simp; omega))) | ((with_reducible refine Below.alloc ?_ ?_ _); rotate_left; focus (first | omega | (simp; done) | (simp; omega))))))) (HIN1'.out.below (by (repeat (first | with_reducible assumption | with_reducible exact Below.refl _ _ | with_reducible refine Below.drew ?_ | with_reducible refine belowDrewN ?_ _ | ((with_reducible refine Below.setCell ?_ ?_ _); rotate_left; focus (first | omega | (simp; done) | (simp; omega))) | ((with_reducible refine Below.alloc ?_ ?_ _); rotate_left; focus (first | omega | (simp; done) | (simp; omega))))))))).mono ?_; rintro e w1 ⟨rfl, hb1⟩; obtain ⟨hc1, hf1⟩ := bcell hb1))
                  go_wp2_with fail
                  go_ret
                  exact ⟨ret_b ((eqSB_not _ _).2 (by intro e; simp only [Syn.mk.injEq] at e; exact HNE.out e.2.2.2.2)).symm, by (repeat (first | with_reducible assumption | with_reducible exact Below.refl _ _ | with_reducible refine Below.drew ?_ | with_reducible refine belowDrewN ?_ _ | ((with_reducible refine Below.setCell ?_ ?_ _); rotate_left; focus (first | omega | (simp; done) | (simp; omega))) | ((with_reducible refine Below.alloc ?_ ?_ _); rotate_left; focus (first | omega | (simp; done) | (simp; omega))) | ((with_reducible refine Below.trans ?_ (Below.mono hb1 ?_)); rotate_left; focus (first | omega | (simp; done) | (simp; omega)))))⟩
              · go_wp2_with fail
                go_ret
                have hj2 : j = ms.length := by omega
                subst hj2
                refine ⟨ret_b ((eqSB_iff _ _).2 ?_).symm, hb⟩
                have hpre' := hpre
                rw [HLN.out, List.take_length, ← HLN.out, HL.out, HLN'.out, List.take_length] at hpre'
                rw [hpre']
          · have hl' : ((ms.length : Int) != (ms'.length : Int)) = true := by simp; omega
            have IH := Lib.hid ih; clear ih; have HIN := Lib.hid hin; clear hin; have HI := Lib.hid hi; clear hi; have HIN' := Lib.hid hin'; clear hin'; have HI' := Lib.hid hi'; clear hi'; have HLN := Lib.hid hln; clear hln; have HLN' := Lib.hid hln'; clear hln'; have HL := Lib.hid hl; clear hl; have HX := Lib.hid hx; clear hx; have HX' := Lib.hid hx'; clear hx'
            go_enter Try.func21, Try.ntmps21
            go_wp2_with fail
            refine (sameInts_calls xa xc x xa' xc' x _ (HX.out.below (by (repeat (first | with_reducible assumption | with_reducible exact Below.refl _ _ | with_reducible refine Below.drew ?_ | with_reducible refine belowDrewN ?_ _ | ((with_reducible refine Below.setCell ?_ ?_ _); rotate_left; focus (first | omega | (simp; done) | (simp; omega))) | ((with_reducible refine Below.alloc ?_ ?_ _); rotate_left; focus (first | omega | (simp; done) | (simp; omega))))))) (HX'.out.below (by (repeat (first | with_reducible assumption | with_reducible exact Below.refl _ _ | with_reducible refine Below.drew ?_ | with_reducible refine belowDrewN ?_ _ | ((with_reducible refine Below.setCell ?_ ?_ _); rotate_left; focus (first | omega | (simp; done) | (simp; omega))) | ((with_reducible refine Below.alloc ?_ ?_ _); rotate_left; focus (first | omega | (simp; done) | (simp; omega)))))))).mono ?_
            rintro e w0 ⟨rfl, hb0⟩
            obtain ⟨hc0, hf0⟩ := bcell hb0; have hz0 := hb0.size; (try simp only [World.size_alloc, World.size_setCell, World.size_drew, sizeDrewN] at hz0 hc0 hf0); have hp0_0 : w.heap.size < w0.heap.size := (by omega); have hp0_1 : w.heap.size + 1 < w0.heap.size := (by omega)
            go_wp2_with fail
            go_ret
            exact ⟨ret_b ((eqSB_not _ _).2 (by intro e; simp only [Syn.mk.injEq] at e; exact HL.out (by rw [HLN.out, HLN'.out, e.2.2.2.2]))).symm, by (repeat (first | with_reducible assumption | with_reducible exact Below.refl _ _ | with_reducible refine Below.drew ?_ | with_reducible refine belowDrewN ?_ _ | ((with_reducible refine Below.setCell ?_ ?_ _); rotate_left; focus (first | omega | (simp; done) | (simp; omega))) | ((with_reducible refine Below.alloc ?_ ?_ _); rotate_left; focus (first | omega | (simp; done) | (simp; omega))) | ((with_reducible refine Below.trans ?_ (Below.mono hb0 ?_)); rotate_left; focus (first | omega | (simp; done) | (simp; omega)))))⟩
        · have hsx : eqL x x' = false := (eqL_not _ _).2 hxx
          have IH := Lib.hid ih; clear ih; have HIN := Lib.hid hin; clear hin; have HI := Lib.hid hi; clear hi; have HIN' := Lib.hid hin'; clear hin'; have HI' := Lib.hid hi'; clear hi'; have HLN := Lib.hid hln; clear hln; have HLN' := Lib.hid hln'; clear hln'; have HXX := Lib.hid hxx; clear hxx; have HX := Lib.hid hx; clear hx; have HX' := Lib.hid hx'; clear hx'
          go_enter Try.func21, Try.ntmps21
          go_wp2_with fail
          refine (sameInts_calls xa xc x xa' xc' x' _ (HX.out.below (by (repeat (first | with_reducible assumption | with_reducible exact Below.refl _ _ | with_reducible refine Below.drew ?_ | with_reducible refine belowDrewN ?_ _ | ((with_reducible refine Below.setCell ?_ ?_ _); rotate_left; focus (first | omega | (simp; done) | (simp; omega))) | ((with_reducible refine Below.alloc ?_ ?_ _); rotate_left; focus (first | omega | (simp; done) | (simp; omega))))))) (HX'.out.below (by (repeat (first | with_reducible assumption | with_reducible exact Below.refl _ _ | with_reducible refine Below.drew ?_ | with_reducible refine belowDrewN ?_ _ | ((with_reducible refine Below.setCell ?_ ?_ _); rotate_left; focus (first | omega | (simp; done) | (simp; omega))) | ((with_reducible refine Below.alloc ?_ ?_ _); rotate_left; focus (first | omega | (simp; done) | (simp; omega)))))))).mono ?_
          rintro e w0 ⟨rfl, hb0⟩
          obtain ⟨hc0, hf0⟩ := bcell hb0; have hz0 := hb0.size; (try simp only [World.size_alloc, World.size_setCell, World.size_drew, sizeDrewN] at hz0 hc0 hf0); have hp0_0 : w.heap.size < w0.heap.size := (by omega); have hp0_1 : w.heap.size + 1 < w0.heap.size := (by omega)
          go_wp2_with fail
          go_ret
          exact ⟨ret_b ((eqSB_not _ _).2 (by intro e; simp only [Syn.mk.injEq] at e; exact HXX.out e.2.2.2.1)).symm, by (repeat (first | with_reducible assumption | with_reducible exact Below.refl _ _ | with_reducible refine Below.drew ?_ | with_reducible refine belowDrewN ?_ _ | ((with_reducible refine Below.setCell ?_ ?_ _); rotate_left; focus (first | omega | (simp; done) | (simp; omega))) | ((with_reducible refine Below.alloc ?_ ?_ _); rotate_left; focus (first | omega | (simp; done) | (simp; omega))) | ((with_reducible refine Below.trans ?_ (Below.mono hb0 ?_)); rotate_left; focus (first | omega | (simp; done) | (simp; omega)))))⟩
      · have hb := ba_ne hs
        have IH := Lib.hid ih; clear ih; have HIN := Lib.hid hin; clear hin; have HI := Lib.hid hi; clear hi; have HIN' := Lib.hid hin'; clear hin'; have HI' := Lib.hid hi'; clear hi'; have HLN := Lib.hid hln; clear hln; have HLN' := Lib.hid hln'; clear hln'; have HS := Lib.hid hs; clear hs; have HX := Lib.hid hx; clear hx; have HX' := Lib.hid hx'; clear hx'
        go_enter Try.func21, Try.ntmps21
        go_wp2_with fail
        go_ret
        exact ⟨ret_b ((eqSB_not _ _).2 (by intro e; simp only [Syn.mk.injEq] at e; exact HS.out e.2.2.1)).symm, by (repeat (first | with_reducible assumption | with_reducible exact Below.refl _ _ | with_reducible refine Below.drew ?_ | with_reducible refine belowDrewN ?_ _ | ((with_reducible refine Below.setCell ?_ ?_ _); rotate_left; focus (first | omega | (simp; done) | (simp; omega))) | ((with_reducible refine Below.alloc ?_ ?_ _); rotate_left; focus (first | omega | (simp; done) | (simp; omega)))))⟩
    · have hb : (n != n') = true := by simp [hn]
      have IH := Lib.hid ih; clear ih; have HIN := Lib.hid hin; clear hin; have HI := Lib.hid hi; clear hi; have HIN' := Lib.hid hin'; clear hin'; have HI' := Lib.hid hi'; clear hi'; have HLN := Lib.hid hln; clear hln; have HLN' := Lib.hid hln'; clear hln'; have HN := Lib.hid hn; clear hn; have HX := Lib.hid hx; clear hx; have HX' := Lib.hid hx'; clear hx'
      go_enter Try.func21, Try.ntmps21
      go_wp2_with fail
      go_ret
      exact ⟨ret_b ((eqSB_not _ _).2 (by intro e; simp only [Syn.mk.injEq] at e; exact HN.out e.2.1)).symm, by (repeat (first | with_reducible assumption | with_reducible exact Below.refl _ _ | with_reducible refine Below.drew ?_ | with_reducible refine belowDrewN ?_ _ | ((with_reducible refine Below.setCell ?_ ?_ _); rotate_left; focus (first | omega | (simp; done) | (simp; omega))) | ((with_reducible refine Below.alloc ?_ ?_ _); rotate_left; focus (first | omega | (simp; done) | (simp; omega)))))⟩
  · have hb : (k != k') = true := by simp [hk]
    have IH := Lib.hid ih; clear ih; have HIN := Lib.hid hin; clear hin; have HI := Lib.hid hi; clear hi; have HIN' := Lib.hid hin'; clear hin'; have HI' := Lib.hid hi'; clear hi'; have HLN := Lib.hid hln; clear hln; have HLN' := Lib.hid hln'; clear hln'; have HK := Lib.hid hk; clear hk; have HX := Lib.hid hx; clear hx; have HX' := Lib.hid hx'; clear hx'
    go_enter Try.func21, Try.ntmps21
    go_wp2_with fail
    go_ret
    exact ⟨ret_b ((eqSB_not _ _).2 (by intro e; simp only [Syn.mk.injEq] at e; exact HK.out e.1)).symm, by (repeat (first | with_reducible assumption | with_reducible exact Below.refl _ _ | with_reducible refine Below.drew ?_ | with_reducible refine belowDrewN ?_ _ | ((with_reducible refine Below.setCell ?_ ?_ _); rotate_left; focus (first | omega | (simp; done) | (simp; omega))) | ((with_reducible refine Below.alloc ?_ ?_ _); rotate_left; focus (first | omega | (simp; done) | (simp; omega)))))⟩
end Go.Proofs.Ytghbnehocggnnaa

/-
  Walks: EqualData. No condition.
-/
set_option linter.unusedVariables false
set_option linter.unusedSimpArgs false
set_option maxRecDepth 100000
namespace Go.Proofs.Ytghbnehocggnnaa
open Go.RowKit

open Classical in
noncomputable def eqDB (x y : Dat) : Bool := decide (x = y)
theorem eqDB_iff (x y : Dat) : eqDB x y = true ↔ x = y := by simp [eqDB]
theorem eqDB_not (x y : Dat) : eqDB x y = false ↔ ¬ x = y := by simp [eqDB]
def iEDs (ds : List Dat) : Prop := ∀ (k n : Int) (s : ByteArray) (a : Option Addr) (cap : Nat) (ms : List M) (k' n' : Int) (s' : ByteArray) (a' : Option Addr) (cap' : Nat) (ds' : List Dat) (ms' : List M) (w : World),
    Dat.IsL 52 ds ms → (M.sl a cap 4 52 ms).In w → Dat.IsL 52 ds' ms' → (M.sl a' cap' 4 52 ms').In w →
    Calls Try.prog 22 #[.agg #[.int .i64 k, .int .i64 n, .string s, .slice a ms.length cap], .agg #[.int .i64 k', .int .i64 n', .string s', .slice a' ms'.length cap']] w (Ret (.bool (eqDB (.mk k n s ds) (.mk k' n' s' ds'))) w)
theorem iEqualData_calls : ∀ ds, iEDs ds := by
  refine Dat.inductL fun ds ih => ?_
  intro k n s a cap ms k' n' s' a' cap' ds' ms' w hi hin hi' hin'
  have hln := hi.length
  have hln' := hi'.length
  have hcapm := hin.len
  have hcapm' := hin'.len
  by_cases hk : k = k'
  · subst hk
    by_cases hn : n = n'
    · subst hn
      by_cases hs : s = s'
      · subst hs
        by_cases hl : ms.length = ms'.length
        · have hl' : ((ms.length : Int) != (ms'.length : Int)) = false := by simp [hl]
          have IH := Lib.hid ih; clear ih; have HIN := Lib.hid hin; clear hin; have HI := Lib.hid hi; clear hi; have HIN' := Lib.hid hin'; clear hin'; have HI' := Lib.hid hi'; clear hi'; have HLN := Lib.hid hln; clear hln; have HLN' := Lib.hid hln'; clear hln'; have HL := Lib.hid hl; clear hl
          go_enter Try.func22, Try.ntmps22
          go_wp2_with fail
          go_loopw [37] (fun i wr => ∃ j : Nat, j ≤ ms.length ∧ i = .int .i64 j ∧ ds.take j = ds'.take j ∧ wr.cell? ⟨w.heap.size, 3, none⟩ = some (.slice a ms.length cap) ∧ wr.cell? ⟨w.heap.size + 1, 3, none⟩ = some (.slice a' ms'.length cap') ∧ Below w.heap.size w wr ∧ w.heap.size + 1 + 1 ≤ wr.heap.size) (fun i _ => ms.length - (intOf i).toNat)
          case atStart => exact ⟨0, Nat.zero_le _, rfl, by simp, by simp [go_sem], by simp [go_sem], by (repeat (first | with_reducible assumption | with_reducible exact Below.refl _ _ | with_reducible refine Below.drew ?_ | with_reducible refine belowDrewN ?_ _ | ((with_reducible refine Below.setCell ?_ ?_ _); rotate_left; focus (first | omega | (simp; done) | (simp; omega))) | ((with_reducible refine Below.alloc ?_ ?_ _); rotate_left; focus (first | omega | (simp; done) | (simp; omega))))), by simp⟩
          case round =>
            obtain ⟨j, hj, rfl, hpre, q1, q2, hb, hsz⟩ := hrel
            by_cases hlt : j < ms.length
            · have hlt' : j < ms'.length := by have := HL.out; omega
              obtain ⟨b, off, k1, n1, s1, ds1, a1, cap1, ms1, rfl, hd, hi1, hin1, c0, c1, c2, c3⟩ := Dat.elem (HIN.out.below hb) HI.out j hlt
              obtain ⟨b', off', k1', n1', s1', ds1', a1', cap1', ms1', rfl, hd', hi1', hin1', c0', c1', c2', c3'⟩ := Dat.elem (HIN'.out.below hb) HI'.out j hlt'
              have hbl := World.block_lt_of_cell? wr _ c0
              have hbl' := World.block_lt_of_cell? wr _ c0'
              have p1 : w.heap.size < wr.heap.size := by omega
              have p2 : w.heap.size + 1 < wr.heap.size := by omega
              by_cases heq : Dat.mk k1 n1 s1 ds1 = Dat.mk k1' n1' s1' ds1'
              · have hq : eqDB (Dat.mk k1 n1 s1 ds1) (Dat.mk k1' n1' s1' ds1') = true := (eqDB_iff _ _).2 heq
                have hpre2 := take_eq_succ hpre hd hd' heq
                have HI1 := Lib.hid hi1; clear hi1; have HIN1 := Lib.hid hin1; clear hin1; have HI1' := Lib.hid hi1'; clear hi1'; have HIN1' := Lib.hid hin1'; clear hin1'; have HD := Lib.hid hd; clear hd; have HD' := Lib.hid hd'; clear hd'; have HPRE := Lib.hid hpre; clear hpre; have HPRE2 := Lib.hid hpre2; clear hpre2; have HEQ := Lib.hid heq; clear heq
                go_wp2_with fail
                go_region_held3 (fun w' => (w'.cell? ⟨w.heap.size, 3, none⟩ = some (.slice (some ⟨b, off, none⟩) ms.length cap) ∧ w'.cell? ⟨w.heap.size + 1, 3, none⟩ = some (.slice (some ⟨b', off', none⟩) ms'.length cap')) ∧ w'.cell? ⟨b, off + j * 4, none⟩ = some (.int .i64 k1) ∧ w'.cell? ⟨b, off + j * 4 + 1, none⟩ = some (.int .i64 n1) ∧ w'.cell? ⟨b, off + j * 4 + 2, none⟩ = some (.string s1) ∧ w'.cell? ⟨b, off + j * 4 + 3, none⟩ = some (.slice a1 ms1.length cap1) ∧ w'.cell? ⟨b', off' + j * 4, none⟩ = some (.int .i64 k1') ∧ w'.cell? ⟨b', off' + j * 4 + 1, none⟩ = some (.int .i64 n1') ∧ w'.cell? ⟨b', off' + j * 4 + 2, none⟩ = some (.string s1') ∧ w'.cell? ⟨b', off' + j * 4 + 3, none⟩ = some (.slice a1' ms1'.length cap1'))
                  (first | exact ⟨⟨q1, q2⟩, c0, c1, c2, c3, c0', c1', c2', c3'⟩ | exact ⟨⟨(hc1 _ _ p1).trans q1, (hc1 _ _ p2).trans q2⟩, (hc1 _ _ hbl).trans c0, (hc1 _ _ hbl).trans c1, (hc1 _ _ hbl).trans c2, (hc1 _ _ hbl).trans c3, (hc1 _ _ hbl').trans c0', (hc1 _ _ hbl').trans c1', (hc1 _ _ hbl').trans c2', (hc1 _ _ hbl').trans c3'⟩)
                  (first | (go_at_call 22; refine (IH.out k1 n1 s1 ds1 (List.mem_of_getElem? HD.out) k1 n1 s1 a1 cap1 ms1 k1' n1' s1' a1' cap1' ds1' ms1' _ HI1.out (HIN1.out.below (by (repeat (first | with_reducible assumption | with_reducible exact Below.refl _ _ | with_reducible refine Below.drew ?_ | with_reducible refine belowDrewN ?_ _ | ((with_reducible refine Below.setCell ?_ ?_ _); rotate_left; focus (first | omega | (simp; done) | (simp; omega))) | ((with_reducible refine Below.alloc ?_ ?_ _); rotate_left; focus (first | omega | (simp; done) | (simp; omega))))))) HI1'.out (HIN1'.out.below (by (repeat (first | with_reducible assumption | with_reducible exact Below.refl _ _ | with_reducible refine Below.drew ?_ | with_reducible refine belowDrewN ?_ _ | ((with_reducible refine Below.setCell ?_ ?_ _); rotate_left; focus (first | omega | (simp; done) | (simp; omega))) | ((with_reducible refine Below.alloc ?_ ?_ _); rotate_left; focus (first | omega | (simp; done) | (simp; omega)))))))).mono ?_; rintro e w1 ⟨rfl, hb1⟩; obtain ⟨hc1, hf1⟩ := bcell hb1))
                have hz1 := hb1.size
                simp only [World.size_drew] at hz1
                have q1' := (hc1 _ _ p1).trans q1
                have q2' := (hc1 _ _ p2).trans q2
                go_wp2_with fail
                go_roundw
                case rel => exact ⟨j + 1, by omega, by go_num, HPRE2.out, q1', q2', by (repeat (first | with_reducible assumption | with_reducible exact Below.refl _ _ | with_reducible refine Below.drew ?_ | with_reducible refine belowDrewN ?_ _ | ((with_reducible refine Below.setCell ?_ ?_ _); rotate_left; focus (first | omega | (simp; done) | (simp; omega))) | ((with_reducible refine Below.alloc ?_ ?_ _); rotate_left; focus (first | omega | (simp; done) | (simp; omega))) | ((with_reducible refine Below.trans ?_ (Below.mono hb1 ?_)); rotate_left; focus (first | omega | (simp; done) | (simp; omega))))), by omega⟩
                case measure => simp [intOf]; omega
              · have hq : eqDB (Dat.mk k1 n1 s1 ds1) (Dat.mk k1' n1' s1' ds1') = false := (eqDB_not _ _).2 heq
                have hne := ne_of_get hd hd' heq
                have HI1 := Lib.hid hi1; clear hi1; have HIN1 := Lib.hid hin1; clear hin1; have HI1' := Lib.hid hi1'; clear hi1'; have HIN1' := Lib.hid hin1'; clear hin1'; have HD := Lib.hid hd; clear hd; have HD' := Lib.hid hd'; clear hd'; have HPRE := Lib.hid hpre; clear hpre; have HNE := Lib.hid hne; clear hne; have HEQ := Lib.hid heq; clear heq
                go_wp2_with fail
                go_region_held3 (fun w' => (w'.cell? ⟨w.heap.size, 3, none⟩ = some (.slice (some ⟨b, off, none⟩) ms.length cap) ∧ w'.cell? ⟨w.heap.size + 1, 3, none⟩ = some (.slice (some ⟨b', off', none⟩) ms'.length cap')) ∧ w'.cell? ⟨b, off + j * 4, none⟩ = some (.int .i64 k1) ∧ w'.cell? ⟨b, off + j * 4 + 1, none⟩ = some (.int .i64 n1) ∧ w'.cell? ⟨b, off + j * 4 + 2, none⟩ = some (.string s1) ∧ w'.cell? ⟨b, off + j * 4 + 3, none⟩ = some (.slice a1 ms1.length cap1) ∧ w'.cell? ⟨b', off' + j * 4, none⟩ = some (.int .i64 k1') ∧ w'.cell? ⟨b', off' + j * 4 + 1, none⟩ = some (.int .i64 n1') ∧ w'.cell? ⟨b', off' + j * 4 + 2, none⟩ = some (.string s1') ∧ w'.cell? ⟨b', off' + j * 4 + 3, none⟩ = some (.slice a1' ms1'.length cap1'))
                  (first | exact ⟨⟨q1, q2⟩, c0, c1, c2, c3, c0', c1', c2', c3'⟩ | exact ⟨⟨(hc1 _ _ p1).trans q1, (hc1 _ _ p2).trans q2⟩, (hc1 _ _ hbl).trans c0, (hc1 _ _ hbl).trans c1, (hc1 _ _ hbl).trans c2, (hc1 _ _ hbl).trans c3, (hc1 _ _ hbl').trans c0', (hc1 _ _ hbl').trans c1', (hc1 _ _ hbl').trans c2', (hc1 _ _ hbl').trans c3'⟩)
                  (first | (go_at_call 22; refine (IH.out k1 n1 s1 ds1 (List.mem_of_getElem? HD.out) k1 n1 s1 a1 cap1 ms1 k1' n1' s1' a1' cap1' ds1' ms1' _ HI1.out (HIN1.out.below (by (repeat (first | with_reducible assumption | with_reducible exact Below.refl _ _ | with_reducible refine Below.drew ?_ | with_reducible refine belowDrewN ?_ _ | ((with_reducible refine Below.setCell ?_ ?_ _); rotate_left; focus (first | omega | (simp; done) | (simp; omega))) | ((with_reducible refine Below.alloc ?_ ?_ _); rotate_left; focus (first | omega | (simp; done) | (simp; omega))))))) HI1'.out (HIN1'.out.below (by (repeat (first | with_reducible assumption | with_reducible exact Below.refl _ _ | with_reducible refine Below.drew ?_ | with_reducible refine belowDrewN ?_ _ | ((with_reducible refine Below.setCell ?_ ?_ _); rotate_left; focus (first | omega | (simp; done) | (simp; omega))) | ((with_reducible refine Below.alloc ?_ ?_ _); rotate_left; focus (first | omega | (simp; done) | (simp; omega)))))))).mono ?_; rintro e w1 ⟨rfl, hb1⟩; obtain ⟨hc1, hf1⟩ := bcell hb1))
                go_wp2_with fail
                go_ret
                exact ⟨ret_b ((eqDB_not _ _).2 (by intro e; simp only [Dat.mk.injEq] at e; exact HNE.out e.2.2.2)).symm, by (repeat (first | with_reducible assumption | with_reducible exact Below.refl _ _ | with_reducible refine Below.drew ?_ | with_reducible refine belowDrewN ?_ _ | ((with_reducible refine Below.setCell ?_ ?_ _); rotate_left; focus (first | omega | (simp; done) | (simp; omega))) | ((with_reducible refine Below.alloc ?_ ?_ _); rotate_left; focus (first | omega | (simp; done) | (simp; omega))) | ((with_reducible refine Below.trans ?_ (Below.mono hb1 ?_)); rotate_left; focus (first | omega | (simp; done) | (simp; omega)))))⟩
            · go_wp2_with fail
              go_ret
              have hj2 : j = ms.length := by omega
              subst hj2
              refine ⟨ret_b ((eqDB_iff _ _).2 ?_).symm, hb⟩
              have hpre' := hpre
              rw [HLN.out, List.take_length, ← HLN.out, HL.out, HLN'.out, List.take_length] at hpre'
              rw [hpre']
        · have hl' : ((ms.length : Int) != (ms'.length : Int)) = true := by simp; omega
          have IH := Lib.hid ih; clear ih; have HIN := Lib.hid hin; clear hin; have HI := Lib.hid hi; clear hi; have HIN' := Lib.hid hin'; clear hin'; have HI' := Lib.hid hi'; clear hi'; have HLN := Lib.hid hln; clear hln; have HLN' := Lib.hid hln'; clear hln'; have HL := Lib.hid hl; clear hl
          go_enter Try.func22, Try.ntmps22
          go_wp2_with fail
          go_ret
          exact ⟨ret_b ((eqDB_not _ _).2 (by intro e; simp only [Dat.mk.injEq] at e; exact HL.out (by rw [HLN.out, HLN'.out, e.2.2.2]))).symm, by (repeat (first | with_reducible assumption | with_reducible exact Below.refl _ _ | with_reducible refine Below.drew ?_ | with_reducible refine belowDrewN ?_ _ | ((with_reducible refine Below.setCell ?_ ?_ _); rotate_left; focus (first | omega | (simp; done) | (simp; omega))) | ((with_reducible refine Below.alloc ?_ ?_ _); rotate_left; focus (first | omega | (simp; done) | (simp; omega)))))⟩
      · have hb := ba_ne hs
        have IH := Lib.hid ih; clear ih; have HIN := Lib.hid hin; clear hin; have HI := Lib.hid hi; clear hi; have HIN' := Lib.hid hin'; clear hin'; have HI' := Lib.hid hi'; clear hi'; have HLN := Lib.hid hln; clear hln; have HLN' := Lib.hid hln'; clear hln'; have HS := Lib.hid hs; clear hs
        go_enter Try.func22, Try.ntmps22
        go_wp2_with fail
        go_ret
        exact ⟨ret_b ((eqDB_not _ _).2 (by intro e; simp only [Dat.mk.injEq] at e; exact HS.out e.2.2.1)).symm, by (repeat (first | with_reducible assumption | with_reducible exact Below.refl _ _ | with_reducible refine Below.drew ?_ | with_reducible refine belowDrewN ?_ _ | ((with_reducible refine Below.setCell ?_ ?_ _); rotate_left; focus (first | omega | (simp; done) | (simp; omega))) | ((with_reducible refine Below.alloc ?_ ?_ _); rotate_left; focus (first | omega | (simp; done) | (simp; omega)))))⟩
    · have hb : (n != n') = true := by simp [hn]
      have IH := Lib.hid ih; clear ih; have HIN := Lib.hid hin; clear hin; have HI := Lib.hid hi; clear hi; have HIN' := Lib.hid hin'; clear hin'; have HI' := Lib.hid hi'; clear hi'; have HLN := Lib.hid hln; clear hln; have HLN' := Lib.hid hln'; clear hln'; have HN := Lib.hid hn; clear hn
      go_enter Try.func22, Try.ntmps22
      go_wp2_with fail
      go_ret
      exact ⟨ret_b ((eqDB_not _ _).2 (by intro e; simp only [Dat.mk.injEq] at e; exact HN.out e.2.1)).symm, by (repeat (first | with_reducible assumption | with_reducible exact Below.refl _ _ | with_reducible refine Below.drew ?_ | with_reducible refine belowDrewN ?_ _ | ((with_reducible refine Below.setCell ?_ ?_ _); rotate_left; focus (first | omega | (simp; done) | (simp; omega))) | ((with_reducible refine Below.alloc ?_ ?_ _); rotate_left; focus (first | omega | (simp; done) | (simp; omega)))))⟩
  · have hb : (k != k') = true := by simp [hk]
    have IH := Lib.hid ih; clear ih; have HIN := Lib.hid hin; clear hin; have HI := Lib.hid hi; clear hi; have HIN' := Lib.hid hin'; clear hin'; have HI' := Lib.hid hi'; clear hi'; have HLN := Lib.hid hln; clear hln; have HLN' := Lib.hid hln'; clear hln'; have HK := Lib.hid hk; clear hk
    go_enter Try.func22, Try.ntmps22
    go_wp2_with fail
    go_ret
    exact ⟨ret_b ((eqDB_not _ _).2 (by intro e; simp only [Dat.mk.injEq] at e; exact HK.out e.1)).symm, by (repeat (first | with_reducible assumption | with_reducible exact Below.refl _ _ | with_reducible refine Below.drew ?_ | with_reducible refine belowDrewN ?_ _ | ((with_reducible refine Below.setCell ?_ ?_ _); rotate_left; focus (first | omega | (simp; done) | (simp; omega))) | ((with_reducible refine Below.alloc ?_ ?_ _); rotate_left; focus (first | omega | (simp; done) | (simp; omega)))))⟩
end Go.Proofs.Ytghbnehocggnnaa
