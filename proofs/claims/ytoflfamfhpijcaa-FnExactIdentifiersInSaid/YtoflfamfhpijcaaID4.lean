/-
  Walks: the identifiers of a piece of syntax. No condition. (printed by wip/tools/mkid.py)
-/
import Derived.Test.YtoflfamfhpijcaaID2
import Derived.Test.YtoflfamfhpijcaaID3
set_option linter.unusedVariables false
set_option linter.unusedSimpArgs false
set_option maxRecDepth 100000
namespace Go.Proofs.Ytoflfamfhpijcaa
open Go.RowKit

def IdsSs (ds : List Syn) : Prop := ∀ (k n : Int) (s : ByteArray) (x : List Int) (xa : Option Addr) (xc : Nat) (a : Option Addr) (cap : Nat) (ms : List M) (acc : List Syn) (b : Option Addr) (bc : Nat) (mb : List M) (w0 w : World), acc.length + (1 + Syn.countL ds) ≤ 1000000000 → s.size + (x.length + (ds.length + Syn.wtX ds)) ≤ 2000000 → Syn.IsL 43 ds ms → (M.sl xa xc 1 3 (intM x)).In w0 → (M.sl a cap 5 43 ms).In w0 → (∀ y ∈ acc, y.k = 1) → Syn.IsL 43 acc mb →
    (M.sl b bc 5 43 mb).Mine w w0.heap.size → Below w0.heap.size w0 w →
    Calls Try.prog 87 #[.agg #[.int .i64 k, .int .i64 n, .string s, .slice xa x.length xc, .slice a ms.length cap], .slice b mb.length bc] w (RetSyns 43 (idL ds (addI k n s x ds acc)) w0)
set_option maxHeartbeats 2000000 in
theorem l2Ids_calls : ∀ ds, IdsSs ds := by
  refine Syn.inductL fun ds ih => ?_
  intro k n s x xa xc a cap ms acc b bc mb w0 w hB hW hi hx hin ho hj0 hm hb0
  have hl := hi.length
  have hcap := hin.len
  have hxl := Ints.len hx
  have hz0 := hb0.size
  have hjl := hj0.length
  have hbl0 : ∀ q ∈ addrBlocks b, q < w.heap.size := fun q hq => (Mine.addr_lo hm q hq).2
  have hj := hj0
  clear hj0
  have IH := Lib.hid ih; clear ih; have HIN := Lib.hid hin; clear hin; have HI := Lib.hid hi; clear hi; have HL := Lib.hid hl; clear hl; have HM := Lib.hid hm; clear hm; have HX := Lib.hid hx; clear hx; have HO := Lib.hid ho; clear ho; have HJ := Lib.hid hj; clear hj; have HJL := Lib.hid hjl; clear hjl
  go_enter Try.func87, Try.ntmps87
  by_cases hk : k = 1
  · subst hk
    by_cases hin2 : HasId acc s x
    · have hA := addI_has hin2 1 n ds
      have hh := (hasIdB_iff acc s x).2 hin2
      rw [hA]
      have HA := Lib.hid hA; clear hA; have HIN2 := Lib.hid hin2; clear hin2
      go_wp2_with fail
      refine (l2HasId_calls acc b bc mb 1 n s x xa xc a ms.length cap _ HJ.out (HM.out.in_.below (by (repeat (first | with_reducible assumption | with_reducible exact Below.refl _ _ | with_reducible refine Below.drew ?_ | with_reducible refine belowDrewN ?_ _ | ((with_reducible refine Below.setCell ?_ ?_ _); rotate_left; focus (first | omega | (simp; done) | (simp; omega))) | ((with_reducible refine Below.alloc ?_ ?_ _); rotate_left; focus (first | omega | (simp; done) | (simp; omega))))))) (HX.out.below (by (repeat (first | with_reducible assumption | with_reducible exact Below.refl _ _ | with_reducible refine Below.drew ?_ | with_reducible refine belowDrewN ?_ _ | ((with_reducible refine Below.setCell ?_ ?_ _); rotate_left; focus (first | omega | (simp; done) | (simp; omega))) | ((with_reducible refine Below.alloc ?_ ?_ _); rotate_left; focus (first | omega | (simp; done) | (simp; omega)))))))).mono ?_
      rintro e w1 ⟨rfl, hb1⟩
      obtain ⟨hc1, hf1⟩ := bcell hb1; have hz1 := hb1.size; (try simp only [World.size_alloc, World.size_setCell, World.size_drew, sizeDrewN] at hz1 hc1 hf1); have hp1_0 : w.heap.size < w1.heap.size := (by omega)
      have q4 : w1.cell? ⟨w.heap.size, 4, none⟩ = some (.slice a ms.length cap) := by rw [hc1 _ _ (by omega)]; simp [go_sem]
      rw [hh]
      clear hc1 hf1
      go_wp2_with fail
      go_loopw [1, 24] (fun t i wr => ∃ (j : Nat) (b' : Option Addr) (bc' : Nat) (mc : List M), j ≤ ms.length ∧ i = .int .i64 j ∧ t = .slice b' mc.length bc' ∧ Syn.IsL 43 (idL (ds.take j) (acc)) mc ∧ (M.sl b' bc' 5 43 mc).Mine wr w0.heap.size ∧ Below w0.heap.size w0 wr) (fun _ i _ => ms.length - (intOf i).toNat)
      case atStart => exact ⟨0, b, bc, mb, Nat.zero_le _, rfl, by simp, by rw [List.take_zero, idL_nil]; exact HJ.out, by exact HM.out.below (by (repeat (first | with_reducible assumption | with_reducible exact Below.refl _ _ | with_reducible refine Below.drew ?_ | with_reducible refine belowDrewN ?_ _ | ((with_reducible refine Below.setCell ?_ ?_ _); rotate_left; focus (first | omega | (simp; done) | (simp; omega))) | ((with_reducible refine Below.alloc ?_ ?_ _); rotate_left; focus (first | omega | (simp; done) | (simp; omega))) | ((with_reducible refine Below.trans ?_ (Below.mono hb1 ?_)); rotate_left; focus (first | omega | (simp; done) | (simp; omega)))))), by (repeat (first | with_reducible assumption | with_reducible exact Below.refl _ _ | with_reducible refine Below.drew ?_ | with_reducible refine belowDrewN ?_ _ | ((with_reducible refine Below.setCell ?_ ?_ _); rotate_left; focus (first | omega | (simp; done) | (simp; omega))) | ((with_reducible refine Below.alloc ?_ ?_ _); rotate_left; focus (first | omega | (simp; done) | (simp; omega))) | ((with_reducible refine Below.trans ?_ (Below.mono hb1 ?_)); rotate_left; focus (first | omega | (simp; done) | (simp; omega)))))⟩
      case round =>
        obtain ⟨j, b', bc', mc, hj, rfl, rfl, hic, hm', hb⟩ := hrel
        have hz := hb.size
        by_cases hlt : j < ms.length
        · obtain ⟨bb, off, k1, n1, s1, x1, ds1, xa1, xc1, a1, cap1, ms1, rfl, hd, hi1, hx1, hin1, c0, c1, c2, c3, c4⟩ := Syn.elem HIN.out HI.out j hlt
          have hbl := World.block_lt_of_cell? w0 _ c0
          simp only at hbl
          have e0 := (hb.cell (p := ⟨bb, _, none⟩) hbl).trans c0
          have e1 := (hb.cell (p := ⟨bb, _, none⟩) hbl).trans c1
          have e2 := (hb.cell (p := ⟨bb, _, none⟩) hbl).trans c2
          have e3 := (hb.cell (p := ⟨bb, _, none⟩) hbl).trans c3
          have e4 := (hb.cell (p := ⟨bb, _, none⟩) hbl).trans c4
          clear c0 c1 c2 c3 c4
          obtain ⟨ht, hle⟩ := Syn.countL_le ds j _ hd
          have hwt1 := Syn.wt_le hd
          simp only [Syn.wt] at hwt1
          have hsl := idL_length (ds.take j) (acc)
          have hst := idL_take hd (acc)
          have hone := idL_one (ds := ds.take j) HO.out
          rw [idD_mk] at hst
          have hmem := List.mem_of_getElem? hd
          simp only [Syn.count] at hle ht
          generalize hcur : idL (ds.take j) (acc) = cur at *
          have HD := Lib.hid hd; clear hd; have HI1 := Lib.hid hi1; clear hi1; have HX1 := Lib.hid hx1; clear hx1; have HIN1 := Lib.hid hin1; clear hin1; have HM' := Lib.hid hm'; clear hm'; have HMEM := Lib.hid hmem; clear hmem; have HST := Lib.hid hst; clear hst; have HCUR := Lib.hid hcur; clear hcur; have HIC := Lib.hid hic; clear hic; have HONE := Lib.hid hone; clear hone
          go_wp2_with fail
          refine (IH.out k1 n1 s1 x1 ds1 HMEM.out k1 n1 s1 x1 xa1 xc1 a1 cap1 ms1 cur b' bc' mc w0 _ (by omega) (by omega) HI1.out HX1.out HIN1.out HONE.out HIC.out (by (exact M.Mine.mono (M.Mine.keep HM'.out (fun b hb1 hb2 => by (try simp at hb1); simp (disch := (first | omega | (simp; omega))) only [heapSet, heapNew, heapDrew, heapDrewN])) (by first | omega | (simp; done) | (simp; omega)))) (by (repeat (first | with_reducible assumption | with_reducible exact Below.refl _ _ | with_reducible refine Below.drew ?_ | with_reducible refine belowDrewN ?_ _ | ((with_reducible refine Below.setCell ?_ ?_ _); rotate_left; focus (first | omega | (simp; done) | (simp; omega))) | ((with_reducible refine Below.alloc ?_ ?_ _); rotate_left; focus (first | omega | (simp; done) | (simp; omega))))))).mono ?_
          rintro e w9 ⟨a9, c9, m9, rfl, hi9, hm9, hb9⟩
          go_wp2_with fail
          go_roundw
          case rel => exact ⟨j + 1, a9, c9, m9, by omega, by go_num, by first | rfl | trivial, by rw [HST.out]; exact hi9, hm9, by (repeat (first | with_reducible assumption | with_reducible exact Below.refl _ _ | with_reducible refine Below.drew ?_ | with_reducible refine belowDrewN ?_ _ | ((with_reducible refine Below.setCell ?_ ?_ _); rotate_left; focus (first | omega | (simp; done) | (simp; omega))) | ((with_reducible refine Below.alloc ?_ ?_ _); rotate_left; focus (first | omega | (simp; done) | (simp; omega))) | ((with_reducible refine Below.trans ?_ (Below.mono hb9 ?_)); rotate_left; focus (first | omega | (simp; done) | (simp; omega)))))⟩
          case measure => simp [intOf]; omega
        · have hk2 : j = ms.length := by omega
          subst hk2
          rw [HL.out, List.take_length] at hic
          have HIC := Lib.hid hic; clear hic; have HM' := Lib.hid hm'; clear hm'
          go_wp2_with fail
          go_ret
          exact ⟨b', bc', mc, rfl, HIC.out, HM'.out, by (repeat (first | with_reducible assumption | with_reducible exact Below.refl _ _ | with_reducible refine Below.drew ?_ | with_reducible refine belowDrewN ?_ _ | ((with_reducible refine Below.setCell ?_ ?_ _); rotate_left; focus (first | omega | (simp; done) | (simp; omega))) | ((with_reducible refine Below.alloc ?_ ?_ _); rotate_left; focus (first | omega | (simp; done) | (simp; omega)))))⟩
    · have hA := addI_yes hin2 n ds
      have hh := (hasIdB_not acc s x).2 hin2
      rw [hA]
      have HA := Lib.hid hA; clear hA; have HIN2 := Lib.hid hin2; clear hin2
      go_wp2_with fail
      refine (l2HasId_calls acc b bc mb 1 n s x xa xc a ms.length cap _ HJ.out (HM.out.in_.below (by (repeat (first | with_reducible assumption | with_reducible exact Below.refl _ _ | with_reducible refine Below.drew ?_ | with_reducible refine belowDrewN ?_ _ | ((with_reducible refine Below.setCell ?_ ?_ _); rotate_left; focus (first | omega | (simp; done) | (simp; omega))) | ((with_reducible refine Below.alloc ?_ ?_ _); rotate_left; focus (first | omega | (simp; done) | (simp; omega))))))) (HX.out.below (by (repeat (first | with_reducible assumption | with_reducible exact Below.refl _ _ | with_reducible refine Below.drew ?_ | with_reducible refine belowDrewN ?_ _ | ((with_reducible refine Below.setCell ?_ ?_ _); rotate_left; focus (first | omega | (simp; done) | (simp; omega))) | ((with_reducible refine Below.alloc ?_ ?_ _); rotate_left; focus (first | omega | (simp; done) | (simp; omega)))))))).mono ?_
      rintro e w1 ⟨rfl, hb1⟩
      obtain ⟨hc1, hf1⟩ := bcell hb1; have hz1 := hb1.size; (try simp only [World.size_alloc, World.size_setCell, World.size_drew, sizeDrewN] at hz1 hc1 hf1); have hp1_0 : w.heap.size < w1.heap.size := (by omega)
      have hq1 : SBox w.heap.size 1 n s (.slice xa x.length xc) (.slice a ms.length cap) w1 := by constructor <;> first | (simp (disch := omega) [hc1, hf1, go_sem]; done) | (simp (disch := omega) [hc1, hf1, go_sem]; rfl)
      obtain ⟨q0, q1, q2, q3, q4, f0, f1, f2, f3, f4⟩ := hq1
      rw [hh]
      clear hc1 hf1
      go_wp2_with fail
      refine (l2Copy_calls 1 n s x ds xa xc a cap ms _ hW HI.out (HX.out.below (by (repeat (first | with_reducible assumption | with_reducible exact Below.refl _ _ | with_reducible refine Below.drew ?_ | with_reducible refine belowDrewN ?_ _ | ((with_reducible refine Below.setCell ?_ ?_ _); rotate_left; focus (first | omega | (simp; done) | (simp; omega))) | ((with_reducible refine Below.alloc ?_ ?_ _); rotate_left; focus (first | omega | (simp; done) | (simp; omega))) | ((with_reducible refine Below.trans ?_ (Below.mono hb1 ?_)); rotate_left; focus (first | omega | (simp; done) | (simp; omega))))))) (HIN.out.below (by (repeat (first | with_reducible assumption | with_reducible exact Below.refl _ _ | with_reducible refine Below.drew ?_ | with_reducible refine belowDrewN ?_ _ | ((with_reducible refine Below.setCell ?_ ?_ _); rotate_left; focus (first | omega | (simp; done) | (simp; omega))) | ((with_reducible refine Below.alloc ?_ ?_ _); rotate_left; focus (first | omega | (simp; done) | (simp; omega))) | ((with_reducible refine Below.trans ?_ (Below.mono hb1 ?_)); rotate_left; focus (first | omega | (simp; done) | (simp; omega)))))))).mono ?_
      rintro e w2 ⟨xa2, xc2, a2, cap2, ms2, rfl, hi2, hm2, hb2⟩
      obtain ⟨hc2, hf2⟩ := bcell hb2; have hz2 := hb2.size; (try simp only [World.size_alloc, World.size_setCell, World.size_drew, sizeDrewN] at hz2 hc2 hf2)
      simp only [Syn.k_mk, Syn.n_mk, Syn.s_mk, Syn.x_mk, Syn.ds_mk] at hi2 hm2 ⊢
      have s4 : w2.cell? ⟨w.heap.size, 4, none⟩ = some (.slice a ms.length cap) := by rw [hc2 _ _ (by omega)]; simp (disch := omega) [q4, go_sem]
      clear hc2 hf2
      have HI2 := Lib.hid hi2; clear hi2; have HM2 := Lib.hid hm2; clear hm2
      go_wp2_with (at_builtin; refine wpList_push (wr := w) rfl _ _ 41 rfl 43 _ 5 80 Try.underlying41 infoSyn rfl (by decide) w0.heap.size b bc mb rfl HM.out hz0 (by (repeat (first | with_reducible assumption | with_reducible exact Below.refl _ _ | with_reducible refine Below.drew ?_ | with_reducible refine belowDrewN ?_ _ | ((with_reducible refine Below.setCell ?_ ?_ _); rotate_left; focus (first | omega | (simp; done) | (simp; omega))) | ((with_reducible refine Below.alloc ?_ ?_ _); rotate_left; focus (first | omega | (simp; done) | (simp; omega))) | ((with_reducible refine Below.trans ?_ (Below.mono hb1 ?_)); rotate_left; focus (first | omega | (simp; done) | (simp; omega))) | ((with_reducible refine Below.trans ?_ (Below.mono hb2 ?_)); rotate_left; focus (first | omega | (simp; done) | (simp; omega)))))) _ (M.ag [.c (.int .i64 1), .c (.int .i64 n), .c (.string s), .sl xa2 xc2 1 3 (intM x), .sl a2 cap2 5 43 ms2]) (by simp [M.cells, M.cellsL, intM_length]) rfl _ (SynOwn_el HM2.out 1 n s) (by first | omega | (simp; omega)) (by simp [go_sem]) (by have := HJL.out; unfold maxLen; omega) (by have := HJL.out; omega) ?_)
      intro a3 cap3 w3 hm3 hb3 hz3 hk3
      have hi3 : Syn.IsL 43 (acc ++ [.mk 1 n s x ds]) (mb ++ [(M.ag [.c (.int .i64 1), .c (.int .i64 n), .c (.string s), .sl xa2 xc2 1 3 (intM x), .sl a2 cap2 5 43 ms2])]) := HJ.out.snoc ⟨_, _, _, _, _, rfl, HI2.out⟩
      have hlen3 : (acc ++ [Syn.mk 1 n s x ds]).length = acc.length + 1 := by simp
      have hml3 : (mb ++ [(M.ag [.c (.int .i64 1), .c (.int .i64 n), .c (.string s), .sl xa2 xc2 1 3 (intM x), .sl a2 cap2 5 43 ms2])]).length = mb.length + 1 := by simp
      have hone3 : ∀ y ∈ acc ++ [Syn.mk 1 n s x ds], y.k = 1 := by
        intro y hy
        rcases List.mem_append.1 hy with hy | hy
        · exact HO.out y hy
        · simp at hy; subst hy; rfl
      have hno : w.heap.size ∉ addrBlocks b := fun hx => by have := hbl0 _ hx; omega
      have t4 : w3.cell? ⟨w.heap.size, 4, none⟩ = some (.slice a ms.length cap) := (World.cell?_of_block (hk3 w.heap.size (by omega) hno)).trans s4
      clear s4 q0 q1 q2 q3 q4 f0 f1 f2 f3 f4
      have HO_old := HO; clear HO; have HO := Lib.hid hone3; clear hone3
      have HM3 := Lib.hid hm3; clear hm3; have HI3 := Lib.hid hi3; clear hi3
      have hbw : Below w0.heap.size w0 w3 := by (repeat (first | with_reducible assumption | with_reducible exact Below.refl _ _ | with_reducible refine Below.drew ?_ | with_reducible refine belowDrewN ?_ _ | ((with_reducible refine Below.setCell ?_ ?_ _); rotate_left; focus (first | omega | (simp; done) | (simp; omega))) | ((with_reducible refine Below.alloc ?_ ?_ _); rotate_left; focus (first | omega | (simp; done) | (simp; omega))) | ((with_reducible refine Below.trans ?_ (Below.mono hb1 ?_)); rotate_left; focus (first | omega | (simp; done) | (simp; omega))) | ((with_reducible refine Below.trans ?_ (Below.mono hb2 ?_)); rotate_left; focus (first | omega | (simp; done) | (simp; omega))) | ((with_reducible refine Below.trans ?_ (Below.mono hb3 ?_)); rotate_left; focus (first | omega | (simp; done) | (simp; omega)))))
      go_wp2_with fail
      go_loopw [1, 24] (fun t i wr => ∃ (j : Nat) (b' : Option Addr) (bc' : Nat) (mc : List M), j ≤ ms.length ∧ i = .int .i64 j ∧ t = .slice b' mc.length bc' ∧ Syn.IsL 43 (idL (ds.take j) (acc ++ [Syn.mk 1 n s x ds])) mc ∧ (M.sl b' bc' 5 43 mc).Mine wr w0.heap.size ∧ Below w0.heap.size w0 wr) (fun _ i _ => ms.length - (intOf i).toNat)
      case atStart => exact ⟨0, a3, cap3, mb ++ [(M.ag [.c (.int .i64 1), .c (.int .i64 n), .c (.string s), .sl xa2 xc2 1 3 (intM x), .sl a2 cap2 5 43 ms2])], Nat.zero_le _, rfl, by simp, by rw [List.take_zero, idL_nil]; exact HI3.out, by (exact M.Mine.mono (M.Mine.keep HM3.out (fun b hb1 hb2 => by (try simp at hb1); simp (disch := (first | omega | (simp; omega))) only [heapSet, heapNew, heapDrew, heapDrewN])) (by first | omega | (simp; done) | (simp; omega))), by (repeat (first | with_reducible assumption | with_reducible exact Below.refl _ _ | with_reducible refine Below.drew ?_ | with_reducible refine belowDrewN ?_ _ | ((with_reducible refine Below.setCell ?_ ?_ _); rotate_left; focus (first | omega | (simp; done) | (simp; omega))) | ((with_reducible refine Below.alloc ?_ ?_ _); rotate_left; focus (first | omega | (simp; done) | (simp; omega))) | ((with_reducible refine Below.trans ?_ (Below.mono hb1 ?_)); rotate_left; focus (first | omega | (simp; done) | (simp; omega))) | ((with_reducible refine Below.trans ?_ (Below.mono hb2 ?_)); rotate_left; focus (first | omega | (simp; done) | (simp; omega))) | ((with_reducible refine Below.trans ?_ (Below.mono hb3 ?_)); rotate_left; focus (first | omega | (simp; done) | (simp; omega)))))⟩
      case round =>
        obtain ⟨j, b', bc', mc, hj, rfl, rfl, hic, hm', hb⟩ := hrel
        have hz := hb.size
        by_cases hlt : j < ms.length
        · obtain ⟨bb, off, k1, n1, s1, x1, ds1, xa1, xc1, a1, cap1, ms1, rfl, hd, hi1, hx1, hin1, c0, c1, c2, c3, c4⟩ := Syn.elem HIN.out HI.out j hlt
          have hbl := World.block_lt_of_cell? w0 _ c0
          simp only at hbl
          have e0 := (hb.cell (p := ⟨bb, _, none⟩) hbl).trans c0
          have e1 := (hb.cell (p := ⟨bb, _, none⟩) hbl).trans c1
          have e2 := (hb.cell (p := ⟨bb, _, none⟩) hbl).trans c2
          have e3 := (hb.cell (p := ⟨bb, _, none⟩) hbl).trans c3
          have e4 := (hb.cell (p := ⟨bb, _, none⟩) hbl).trans c4
          clear c0 c1 c2 c3 c4
          obtain ⟨ht, hle⟩ := Syn.countL_le ds j _ hd
          have hwt1 := Syn.wt_le hd
          simp only [Syn.wt] at hwt1
          have hsl := idL_length (ds.take j) (acc ++ [Syn.mk 1 n s x ds])
          have hst := idL_take hd (acc ++ [Syn.mk 1 n s x ds])
          have hone := idL_one (ds := ds.take j) HO.out
          rw [idD_mk] at hst
          have hmem := List.mem_of_getElem? hd
          simp only [Syn.count] at hle ht
          generalize hcur : idL (ds.take j) (acc ++ [Syn.mk 1 n s x ds]) = cur at *
          have HD := Lib.hid hd; clear hd; have HI1 := Lib.hid hi1; clear hi1; have HX1 := Lib.hid hx1; clear hx1; have HIN1 := Lib.hid hin1; clear hin1; have HM' := Lib.hid hm'; clear hm'; have HMEM := Lib.hid hmem; clear hmem; have HST := Lib.hid hst; clear hst; have HCUR := Lib.hid hcur; clear hcur; have HIC := Lib.hid hic; clear hic; have HONE := Lib.hid hone; clear hone
          go_wp2_with fail
          refine (IH.out k1 n1 s1 x1 ds1 HMEM.out k1 n1 s1 x1 xa1 xc1 a1 cap1 ms1 cur b' bc' mc w0 _ (by omega) (by omega) HI1.out HX1.out HIN1.out HONE.out HIC.out (by (exact M.Mine.mono (M.Mine.keep HM'.out (fun b hb1 hb2 => by (try simp at hb1); simp (disch := (first | omega | (simp; omega))) only [heapSet, heapNew, heapDrew, heapDrewN])) (by first | omega | (simp; done) | (simp; omega)))) (by (repeat (first | with_reducible assumption | with_reducible exact Below.refl _ _ | with_reducible refine Below.drew ?_ | with_reducible refine belowDrewN ?_ _ | ((with_reducible refine Below.setCell ?_ ?_ _); rotate_left; focus (first | omega | (simp; done) | (simp; omega))) | ((with_reducible refine Below.alloc ?_ ?_ _); rotate_left; focus (first | omega | (simp; done) | (simp; omega))))))).mono ?_
          rintro e w9 ⟨a9, c9, m9, rfl, hi9, hm9, hb9⟩
          go_wp2_with fail
          go_roundw
          case rel => exact ⟨j + 1, a9, c9, m9, by omega, by go_num, by first | rfl | trivial, by rw [HST.out]; exact hi9, hm9, by (repeat (first | with_reducible assumption | with_reducible exact Below.refl _ _ | with_reducible refine Below.drew ?_ | with_reducible refine belowDrewN ?_ _ | ((with_reducible refine Below.setCell ?_ ?_ _); rotate_left; focus (first | omega | (simp; done) | (simp; omega))) | ((with_reducible refine Below.alloc ?_ ?_ _); rotate_left; focus (first | omega | (simp; done) | (simp; omega))) | ((with_reducible refine Below.trans ?_ (Below.mono hb9 ?_)); rotate_left; focus (first | omega | (simp; done) | (simp; omega)))))⟩
          case measure => simp [intOf]; omega
        · have hk2 : j = ms.length := by omega
          subst hk2
          rw [HL.out, List.take_length] at hic
          have HIC := Lib.hid hic; clear hic; have HM' := Lib.hid hm'; clear hm'
          go_wp2_with fail
          go_ret
          exact ⟨b', bc', mc, rfl, HIC.out, HM'.out, by (repeat (first | with_reducible assumption | with_reducible exact Below.refl _ _ | with_reducible refine Below.drew ?_ | with_reducible refine belowDrewN ?_ _ | ((with_reducible refine Below.setCell ?_ ?_ _); rotate_left; focus (first | omega | (simp; done) | (simp; omega))) | ((with_reducible refine Below.alloc ?_ ?_ _); rotate_left; focus (first | omega | (simp; done) | (simp; omega)))))⟩
  · have hA := addI_other hk n s x ds acc
    have hkb : (k == 1) = false := by simp [hk]
    rw [hA]
    have HA := Lib.hid hA; clear hA; have HK := Lib.hid hk; clear hk
    go_wp2_with fail
    go_loopw [1, 24] (fun t i wr => ∃ (j : Nat) (b' : Option Addr) (bc' : Nat) (mc : List M), j ≤ ms.length ∧ i = .int .i64 j ∧ t = .slice b' mc.length bc' ∧ Syn.IsL 43 (idL (ds.take j) (acc)) mc ∧ (M.sl b' bc' 5 43 mc).Mine wr w0.heap.size ∧ Below w0.heap.size w0 wr) (fun _ i _ => ms.length - (intOf i).toNat)
    case atStart => exact ⟨0, b, bc, mb, Nat.zero_le _, rfl, by simp, by rw [List.take_zero, idL_nil]; exact HJ.out, by (exact M.Mine.mono (M.Mine.keep HM.out (fun b hb1 hb2 => by (try simp at hb1); simp (disch := (first | omega | (simp; omega))) only [heapSet, heapNew, heapDrew, heapDrewN])) (by first | omega | (simp; done) | (simp; omega))), by (repeat (first | with_reducible assumption | with_reducible exact Below.refl _ _ | with_reducible refine Below.drew ?_ | with_reducible refine belowDrewN ?_ _ | ((with_reducible refine Below.setCell ?_ ?_ _); rotate_left; focus (first | omega | (simp; done) | (simp; omega))) | ((with_reducible refine Below.alloc ?_ ?_ _); rotate_left; focus (first | omega | (simp; done) | (simp; omega)))))⟩
    case round =>
      obtain ⟨j, b', bc', mc, hj, rfl, rfl, hic, hm', hb⟩ := hrel
      have hz := hb.size
      by_cases hlt : j < ms.length
      · obtain ⟨bb, off, k1, n1, s1, x1, ds1, xa1, xc1, a1, cap1, ms1, rfl, hd, hi1, hx1, hin1, c0, c1, c2, c3, c4⟩ := Syn.elem HIN.out HI.out j hlt
        have hbl := World.block_lt_of_cell? w0 _ c0
        simp only at hbl
        have e0 := (hb.cell (p := ⟨bb, _, none⟩) hbl).trans c0
        have e1 := (hb.cell (p := ⟨bb, _, none⟩) hbl).trans c1
        have e2 := (hb.cell (p := ⟨bb, _, none⟩) hbl).trans c2
        have e3 := (hb.cell (p := ⟨bb, _, none⟩) hbl).trans c3
        have e4 := (hb.cell (p := ⟨bb, _, none⟩) hbl).trans c4
        clear c0 c1 c2 c3 c4
        obtain ⟨ht, hle⟩ := Syn.countL_le ds j _ hd
        have hwt1 := Syn.wt_le hd
        simp only [Syn.wt] at hwt1
        have hsl := idL_length (ds.take j) (acc)
        have hst := idL_take hd (acc)
        have hone := idL_one (ds := ds.take j) HO.out
        rw [idD_mk] at hst
        have hmem := List.mem_of_getElem? hd
        simp only [Syn.count] at hle ht
        generalize hcur : idL (ds.take j) (acc) = cur at *
        have HD := Lib.hid hd; clear hd; have HI1 := Lib.hid hi1; clear hi1; have HX1 := Lib.hid hx1; clear hx1; have HIN1 := Lib.hid hin1; clear hin1; have HM' := Lib.hid hm'; clear hm'; have HMEM := Lib.hid hmem; clear hmem; have HST := Lib.hid hst; clear hst; have HCUR := Lib.hid hcur; clear hcur; have HIC := Lib.hid hic; clear hic; have HONE := Lib.hid hone; clear hone
        go_wp2_with fail
        refine (IH.out k1 n1 s1 x1 ds1 HMEM.out k1 n1 s1 x1 xa1 xc1 a1 cap1 ms1 cur b' bc' mc w0 _ (by omega) (by omega) HI1.out HX1.out HIN1.out HONE.out HIC.out (by (exact M.Mine.mono (M.Mine.keep HM'.out (fun b hb1 hb2 => by (try simp at hb1); simp (disch := (first | omega | (simp; omega))) only [heapSet, heapNew, heapDrew, heapDrewN])) (by first | omega | (simp; done) | (simp; omega)))) (by (repeat (first | with_reducible assumption | with_reducible exact Below.refl _ _ | with_reducible refine Below.drew ?_ | with_reducible refine belowDrewN ?_ _ | ((with_reducible refine Below.setCell ?_ ?_ _); rotate_left; focus (first | omega | (simp; done) | (simp; omega))) | ((with_reducible refine Below.alloc ?_ ?_ _); rotate_left; focus (first | omega | (simp; done) | (simp; omega))))))).mono ?_
        rintro e w9 ⟨a9, c9, m9, rfl, hi9, hm9, hb9⟩
        go_wp2_with fail
        go_roundw
        case rel => exact ⟨j + 1, a9, c9, m9, by omega, by go_num, by first | rfl | trivial, by rw [HST.out]; exact hi9, hm9, by (repeat (first | with_reducible assumption | with_reducible exact Below.refl _ _ | with_reducible refine Below.drew ?_ | with_reducible refine belowDrewN ?_ _ | ((with_reducible refine Below.setCell ?_ ?_ _); rotate_left; focus (first | omega | (simp; done) | (simp; omega))) | ((with_reducible refine Below.alloc ?_ ?_ _); rotate_left; focus (first | omega | (simp; done) | (simp; omega))) | ((with_reducible refine Below.trans ?_ (Below.mono hb9 ?_)); rotate_left; focus (first | omega | (simp; done) | (simp; omega)))))⟩
        case measure => simp [intOf]; omega
      · have hk2 : j = ms.length := by omega
        subst hk2
        rw [HL.out, List.take_length] at hic
        have HIC := Lib.hid hic; clear hic; have HM' := Lib.hid hm'; clear hm'
        go_wp2_with fail
        go_ret
        exact ⟨b', bc', mc, rfl, HIC.out, HM'.out, by (repeat (first | with_reducible assumption | with_reducible exact Below.refl _ _ | with_reducible refine Below.drew ?_ | with_reducible refine belowDrewN ?_ _ | ((with_reducible refine Below.setCell ?_ ?_ _); rotate_left; focus (first | omega | (simp; done) | (simp; omega))) | ((with_reducible refine Below.alloc ?_ ?_ _); rotate_left; focus (first | omega | (simp; done) | (simp; omega)))))⟩
def CidsSs (ds : List Syn) : Prop := ∀ (k n : Int) (s : ByteArray) (x : List Int) (xa : Option Addr) (xc : Nat) (a : Option Addr) (cap : Nat) (ms : List M) (acc : List Syn) (b : Option Addr) (bc : Nat) (mb : List M) (w0 w : World), (Syn.mk k n s x ds).ok → acc.length + (1 + Syn.countL ds) ≤ 1000000000 → s.size + (x.length + (ds.length + Syn.wtX ds)) ≤ 2000000 → Syn.IsL 43 ds ms → (M.sl xa xc 1 3 (intM x)).In w0 → (M.sl a cap 5 43 ms).In w0 → (∀ y ∈ acc, y.k = 1) → Syn.IsL 43 acc mb →
    (M.sl b bc 5 43 mb).Mine w w0.heap.size → Below w0.heap.size w0 w →
    Calls Try.prog 90 #[.agg #[.int .i64 k, .int .i64 n, .string s, .slice xa x.length xc, .slice a ms.length cap], .slice b mb.length bc] w (RetSyns 43 (idL ds (addI k n s x ds acc)) w0)
set_option maxHeartbeats 2000000 in
theorem collectIdentifiers_calls : ∀ ds, CidsSs ds := by
  refine Syn.inductL fun ds ih => ?_
  intro k n s x xa xc a cap ms acc b bc mb w0 w hok hB hW hi hx hin ho hj0 hm hb0
  have hl := hi.length
  have hcap := hin.len
  have hxl := Ints.len hx
  have hz0 := hb0.size
  have hjl := hj0.length
  have hbcap := hm.in_.len
  have hj := hj0
  clear hj0
  have IH := Lib.hid ih; clear ih; have HIN := Lib.hid hin; clear hin; have HI := Lib.hid hi; clear hi; have HL := Lib.hid hl; clear hl; have HM := Lib.hid hm; clear hm; have HX := Lib.hid hx; clear hx; have HO := Lib.hid ho; clear ho; have HJ := Lib.hid hj; clear hj; have HJL := Lib.hid hjl; clear hjl
  go_enter Try.func90, Try.ntmps90
  by_cases hk : k = 1
  · subst hk
    have hds := sym_items hok
    subst hds
    rw [idL_nil]
    have HOK := Lib.hid hok; clear hok
    go_wp2_with fail
    go_loopw [14] (fun i wr => ∃ j : Nat, j ≤ mb.length ∧ i = .int .i64 j ∧ ¬ HasId (acc.take j) s x ∧ SBox w.heap.size 1 n s (.slice xa x.length xc) (.slice a ms.length cap) wr ∧ Below w.heap.size w wr ∧ w.heap.size + 1 ≤ wr.heap.size) (fun i _ => mb.length - (intOf i).toNat)
    case atStart => exact ⟨0, Nat.zero_le _, rfl, noId_nil _ _, SBox.new _ _ _ _ _ _, by (repeat (first | with_reducible assumption | with_reducible exact Below.refl _ _ | with_reducible refine Below.drew ?_ | with_reducible refine belowDrewN ?_ _ | ((with_reducible refine Below.setCell ?_ ?_ _); rotate_left; focus (first | omega | (simp; done) | (simp; omega))) | ((with_reducible refine Below.alloc ?_ ?_ _); rotate_left; focus (first | omega | (simp; done) | (simp; omega))))), by simp⟩
    case round =>
      obtain ⟨j, hj, rfl, hno, hq, hb, hsz⟩ := hrel
      have p0 := hq.lt
      have hq0 := hq
      obtain ⟨q0, q1, q2, q3, q4, f0, f1, f2, f3, f4⟩ := hq
      by_cases hlt : j < mb.length
      · obtain ⟨bb, off, k1, n1, s1, x1, ds1, xa1, xc1, a1, cap1, ms1, rfl, hd, hi1, hx1, hin1, c0, c1, c2, c3, c4⟩ := Syn.elem (HM.out.in_.below hb) HJ.out j hlt
        have hbA : Below wr.heap.size wr (wr.alloc (.cells #[.int .i64 k1, .int .i64 n1, .string s1, .slice xa1 x1.length xc1, .slice a1 ms1.length cap1] 43)) := by (repeat (first | with_reducible assumption | with_reducible exact Below.refl _ _ | with_reducible refine Below.drew ?_ | with_reducible refine belowDrewN ?_ _ | ((with_reducible refine Below.setCell ?_ ?_ _); rotate_left; focus (first | omega | (simp; done) | (simp; omega))) | ((with_reducible refine Below.alloc ?_ ?_ _); rotate_left; focus (first | omega | (simp; done) | (simp; omega)))))
        have hq1' := hq0.below hbA p0
        have hk1 : k1 = 1 := by have := HO.out _ (List.mem_of_getElem? hd); simpa using this
        subst hk1
        cases hv : sameIdB s1 s x1 x with
        | true =>
          have hy : HasId acc s x := by
            simp only [sameIdB, Bool.and_eq_true, eqL_iff] at hv
            exact ⟨_, List.mem_of_getElem? hd, by simpa [eqTx] using hv.1, hv.2⟩
          have hA := addI_has hy 1 n []
          have HNO := Lib.hid hno; clear hno; have HD := Lib.hid hd; clear hd; have HX1 := Lib.hid hx1; clear hx1; have HIN1 := Lib.hid hin1; clear hin1; have HI1 := Lib.hid hi1; clear hi1; have HY := Lib.hid hy; clear hy; have HQ0 := Lib.hid hq0; clear hq0; have HQ1' := Lib.hid hq1'; clear hq1'; have HA := Lib.hid hA; clear hA
          go_wp2_with fail
          refine (sameName_calls 1 n1 s1 x1 xa1 xc1 a1 ms1.length cap1 1 n s x xa xc a ms.length cap _ (HX1.out.below (by (repeat (first | with_reducible assumption | with_reducible exact Below.refl _ _ | with_reducible refine Below.drew ?_ | with_reducible refine belowDrewN ?_ _ | ((with_reducible refine Below.setCell ?_ ?_ _); rotate_left; focus (first | omega | (simp; done) | (simp; omega))) | ((with_reducible refine Below.alloc ?_ ?_ _); rotate_left; focus (first | omega | (simp; done) | (simp; omega))))))) (HX.out.below (by (repeat (first | with_reducible assumption | with_reducible exact Below.refl _ _ | with_reducible refine Below.drew ?_ | with_reducible refine belowDrewN ?_ _ | ((with_reducible refine Below.setCell ?_ ?_ _); rotate_left; focus (first | omega | (simp; done) | (simp; omega))) | ((with_reducible refine Below.alloc ?_ ?_ _); rotate_left; focus (first | omega | (simp; done) | (simp; omega))) | ((with_reducible refine Below.trans ?_ (Below.mono hb ?_)); rotate_left; focus (first | omega | (simp; done) | (simp; omega)))))))).mono ?_
          rintro e w1 ⟨rfl, hb1⟩
          have hvv : (((1 : Int) == 1) && (((1 : Int) == 1) && sameIdB s1 s x1 x)) = true := by rw [hv]; rfl
          rw [hvv]
          go_wp2_with fail
          go_ret
          exact ⟨_, bc, mb, rfl, by rw [HA.out]; exact HJ.out, HM.out.below (by (repeat (first | with_reducible assumption | with_reducible exact Below.refl _ _ | with_reducible refine Below.drew ?_ | with_reducible refine belowDrewN ?_ _ | ((with_reducible refine Below.setCell ?_ ?_ _); rotate_left; focus (first | omega | (simp; done) | (simp; omega))) | ((with_reducible refine Below.alloc ?_ ?_ _); rotate_left; focus (first | omega | (simp; done) | (simp; omega))) | ((with_reducible refine Below.trans ?_ (Below.mono hb ?_)); rotate_left; focus (first | omega | (simp; done) | (simp; omega))) | ((with_reducible refine Below.trans ?_ (Below.mono hb1 ?_)); rotate_left; focus (first | omega | (simp; done) | (simp; omega)))))), by (repeat (first | with_reducible assumption | with_reducible exact Below.refl _ _ | with_reducible refine Below.drew ?_ | with_reducible refine belowDrewN ?_ _ | ((with_reducible refine Below.setCell ?_ ?_ _); rotate_left; focus (first | omega | (simp; done) | (simp; omega))) | ((with_reducible refine Below.alloc ?_ ?_ _); rotate_left; focus (first | omega | (simp; done) | (simp; omega))) | ((with_reducible refine Below.trans ?_ (Below.mono hb ?_)); rotate_left; focus (first | omega | (simp; done) | (simp; omega))) | ((with_reducible refine Below.trans ?_ (Below.mono hb1 ?_)); rotate_left; focus (first | omega | (simp; done) | (simp; omega)))))⟩
        | false =>
          have hn2 : ¬ (s1 = s ∧ x1 = x) := by
            rintro ⟨rfl, rfl⟩
            have : sameIdB s1 s1 x1 x1 = true := by simp [sameIdB, eqTx, eqL_iff]
            rw [hv] at this; cases this
          have hno2 := noId_step hno hd hn2
          have HNO := Lib.hid hno; clear hno; have HD := Lib.hid hd; clear hd; have HX1 := Lib.hid hx1; clear hx1; have HIN1 := Lib.hid hin1; clear hin1; have HI1 := Lib.hid hi1; clear hi1; have HN2 := Lib.hid hn2; clear hn2; have HNO2 := Lib.hid hno2; clear hno2; have HQ0 := Lib.hid hq0; clear hq0; have HQ1' := Lib.hid hq1'; clear hq1'
          go_wp2_with fail
          refine (sameName_calls 1 n1 s1 x1 xa1 xc1 a1 ms1.length cap1 1 n s x xa xc a ms.length cap _ (HX1.out.below (by (repeat (first | with_reducible assumption | with_reducible exact Below.refl _ _ | with_reducible refine Below.drew ?_ | with_reducible refine belowDrewN ?_ _ | ((with_reducible refine Below.setCell ?_ ?_ _); rotate_left; focus (first | omega | (simp; done) | (simp; omega))) | ((with_reducible refine Below.alloc ?_ ?_ _); rotate_left; focus (first | omega | (simp; done) | (simp; omega))))))) (HX.out.below (by (repeat (first | with_reducible assumption | with_reducible exact Below.refl _ _ | with_reducible refine Below.drew ?_ | with_reducible refine belowDrewN ?_ _ | ((with_reducible refine Below.setCell ?_ ?_ _); rotate_left; focus (first | omega | (simp; done) | (simp; omega))) | ((with_reducible refine Below.alloc ?_ ?_ _); rotate_left; focus (first | omega | (simp; done) | (simp; omega))) | ((with_reducible refine Below.trans ?_ (Below.mono hb ?_)); rotate_left; focus (first | omega | (simp; done) | (simp; omega)))))))).mono ?_
          rintro e w1 ⟨rfl, hb1⟩
          have hvv : (((1 : Int) == 1) && (((1 : Int) == 1) && sameIdB s1 s x1 x)) = false := by rw [hv]; rfl
          rw [hvv]
          have hz1 := hb1.size
          simp only [World.size_alloc] at hz1
          have hq2' := HQ1'.out.below hb1 (by simp; omega)
          have HQ2' := Lib.hid hq2'; clear hq2'
          go_wp2_with fail
          go_roundw
          case rel => exact ⟨j + 1, by omega, by go_num, HNO2.out, HQ2'.out, by (repeat (first | with_reducible assumption | with_reducible exact Below.refl _ _ | with_reducible refine Below.drew ?_ | with_reducible refine belowDrewN ?_ _ | ((with_reducible refine Below.setCell ?_ ?_ _); rotate_left; focus (first | omega | (simp; done) | (simp; omega))) | ((with_reducible refine Below.alloc ?_ ?_ _); rotate_left; focus (first | omega | (simp; done) | (simp; omega))) | ((with_reducible refine Below.trans ?_ (Below.mono hb ?_)); rotate_left; focus (first | omega | (simp; done) | (simp; omega))) | ((with_reducible refine Below.trans ?_ (Below.mono hb1 ?_)); rotate_left; focus (first | omega | (simp; done) | (simp; omega))))), by omega⟩
          case measure => simp [intOf]; omega
      · have hj2 : j = mb.length := by omega
        subst hj2
        rw [HJ.out.length, List.take_length] at hno
        have hA := addI_yes hno n []
        have hb1 := hb
        have hzr := hb.size
        have HNO := Lib.hid hno; clear hno; have HQ0 := Lib.hid hq0; clear hq0; have HA := Lib.hid hA; clear hA
        go_wp2_with fail
        refine (copySyntax_calls 1 n s x [] xa xc a cap ms _ hW HI.out (HX.out.below (by (repeat (first | with_reducible assumption | with_reducible exact Below.refl _ _ | with_reducible refine Below.drew ?_ | with_reducible refine belowDrewN ?_ _ | ((with_reducible refine Below.setCell ?_ ?_ _); rotate_left; focus (first | omega | (simp; done) | (simp; omega))) | ((with_reducible refine Below.alloc ?_ ?_ _); rotate_left; focus (first | omega | (simp; done) | (simp; omega))) | ((with_reducible refine Below.trans ?_ (Below.mono hb ?_)); rotate_left; focus (first | omega | (simp; done) | (simp; omega))))))) (HIN.out.below (by (repeat (first | with_reducible assumption | with_reducible exact Below.refl _ _ | with_reducible refine Below.drew ?_ | with_reducible refine belowDrewN ?_ _ | ((with_reducible refine Below.setCell ?_ ?_ _); rotate_left; focus (first | omega | (simp; done) | (simp; omega))) | ((with_reducible refine Below.alloc ?_ ?_ _); rotate_left; focus (first | omega | (simp; done) | (simp; omega))) | ((with_reducible refine Below.trans ?_ (Below.mono hb ?_)); rotate_left; focus (first | omega | (simp; done) | (simp; omega)))))))).mono ?_
        rintro e w2 ⟨xa2, xc2, a2, cap2, ms2, rfl, hi2, hm2, hb2⟩
        have hz2 := hb2.size
        simp only [Syn.k_mk, Syn.n_mk, Syn.s_mk, Syn.x_mk, Syn.ds_mk] at hi2 hm2 ⊢
        have HI2 := Lib.hid hi2; clear hi2; have HM2 := Lib.hid hm2; clear hm2
        go_wp2_with (at_builtin; refine wpList_push (wr := w) rfl _ _ 41 rfl 43 _ 5 80 Try.underlying41 infoSyn rfl (by decide) w0.heap.size b bc mb rfl HM.out hz0 (by (repeat (first | with_reducible assumption | with_reducible exact Below.refl _ _ | with_reducible refine Below.drew ?_ | with_reducible refine belowDrewN ?_ _ | ((with_reducible refine Below.setCell ?_ ?_ _); rotate_left; focus (first | omega | (simp; done) | (simp; omega))) | ((with_reducible refine Below.alloc ?_ ?_ _); rotate_left; focus (first | omega | (simp; done) | (simp; omega))) | ((with_reducible refine Below.trans ?_ (Below.mono hb1 ?_)); rotate_left; focus (first | omega | (simp; done) | (simp; omega))) | ((with_reducible refine Below.trans ?_ (Below.mono hb2 ?_)); rotate_left; focus (first | omega | (simp; done) | (simp; omega)))))) _ (M.ag [.c (.int .i64 1), .c (.int .i64 n), .c (.string s), .sl xa2 xc2 1 3 (intM x), .sl a2 cap2 5 43 ms2]) (by simp [M.cells, M.cellsL, intM_length]) rfl _ (SynOwn_el HM2.out 1 n s) (by first | omega | (simp; omega)) (by simp [go_sem]) (by have := HJL.out; unfold maxLen; omega) (by have := HJL.out; omega) ?_)
        intro a3 cap3 w3 hm3 hb3 hz3 hk3
        have hi3 : Syn.IsL 43 (acc ++ [.mk 1 n s x []]) (mb ++ [(M.ag [.c (.int .i64 1), .c (.int .i64 n), .c (.string s), .sl xa2 xc2 1 3 (intM x), .sl a2 cap2 5 43 ms2])]) := HJ.out.snoc ⟨_, _, _, _, _, rfl, HI2.out⟩
        have hlen3 : (acc ++ [Syn.mk 1 n s x []]).length = acc.length + 1 := by simp
        have hml3 : (mb ++ [(M.ag [.c (.int .i64 1), .c (.int .i64 n), .c (.string s), .sl xa2 xc2 1 3 (intM x), .sl a2 cap2 5 43 ms2])]).length = mb.length + 1 := by simp
        have hone3 : ∀ y ∈ acc ++ [Syn.mk 1 n s x []], y.k = 1 := by
          intro y hy
          rcases List.mem_append.1 hy with hy | hy
          · exact HO.out y hy
          · simp at hy; subst hy; rfl
        have HM3 := Lib.hid hm3; clear hm3; have HI3 := Lib.hid hi3; clear hi3
        have hbw : Below w0.heap.size w0 w3 := by (repeat (first | with_reducible assumption | with_reducible exact Below.refl _ _ | with_reducible refine Below.drew ?_ | with_reducible refine belowDrewN ?_ _ | ((with_reducible refine Below.setCell ?_ ?_ _); rotate_left; focus (first | omega | (simp; done) | (simp; omega))) | ((with_reducible refine Below.alloc ?_ ?_ _); rotate_left; focus (first | omega | (simp; done) | (simp; omega))) | ((with_reducible refine Below.trans ?_ (Below.mono hb1 ?_)); rotate_left; focus (first | omega | (simp; done) | (simp; omega))) | ((with_reducible refine Below.trans ?_ (Below.mono hb2 ?_)); rotate_left; focus (first | omega | (simp; done) | (simp; omega))) | ((with_reducible refine Below.trans ?_ (Below.mono hb3 ?_)); rotate_left; focus (first | omega | (simp; done) | (simp; omega)))))
        go_wp2_with fail
        go_ret
        exact ⟨a3, cap3, _, by first | (rw [hml3]; done) | (rw [hml3]; rfl), by rw [HA.out]; exact HI3.out, HM3.out, hbw⟩
  · have hA := addI_other hk n s x ds acc
    have hkb : (k == 1) = false := by simp [hk]
    rw [hA]
    have HA := Lib.hid hA; clear hA; have HK := Lib.hid hk; clear hk; have HOK := Lib.hid hok; clear hok
    go_wp2_with fail
    go_loopw [1, 31] (fun t i wr => ∃ (j : Nat) (b' : Option Addr) (bc' : Nat) (mc : List M), j ≤ ms.length ∧ i = .int .i64 j ∧ t = .slice b' mc.length bc' ∧ Syn.IsL 43 (idL (ds.take j) (acc)) mc ∧ (M.sl b' bc' 5 43 mc).Mine wr w0.heap.size ∧ Below w0.heap.size w0 wr) (fun _ i _ => ms.length - (intOf i).toNat)
    case atStart => exact ⟨0, b, bc, mb, Nat.zero_le _, rfl, by simp, by rw [List.take_zero, idL_nil]; exact HJ.out, by (exact M.Mine.mono (M.Mine.keep HM.out (fun b hb1 hb2 => by (try simp at hb1); simp (disch := (first | omega | (simp; omega))) only [heapSet, heapNew, heapDrew, heapDrewN])) (by first | omega | (simp; done) | (simp; omega))), by (repeat (first | with_reducible assumption | with_reducible exact Below.refl _ _ | with_reducible refine Below.drew ?_ | with_reducible refine belowDrewN ?_ _ | ((with_reducible refine Below.setCell ?_ ?_ _); rotate_left; focus (first | omega | (simp; done) | (simp; omega))) | ((with_reducible refine Below.alloc ?_ ?_ _); rotate_left; focus (first | omega | (simp; done) | (simp; omega)))))⟩
    case round =>
      obtain ⟨j, b', bc', mc, hj, rfl, rfl, hic, hm', hb⟩ := hrel
      have hz := hb.size
      by_cases hlt : j < ms.length
      · obtain ⟨bb, off, k1, n1, s1, x1, ds1, xa1, xc1, a1, cap1, ms1, rfl, hd, hi1, hx1, hin1, c0, c1, c2, c3, c4⟩ := Syn.elem HIN.out HI.out j hlt
        have hbl := World.block_lt_of_cell? w0 _ c0
        simp only at hbl
        have e0 := (hb.cell (p := ⟨bb, _, none⟩) hbl).trans c0
        have e1 := (hb.cell (p := ⟨bb, _, none⟩) hbl).trans c1
        have e2 := (hb.cell (p := ⟨bb, _, none⟩) hbl).trans c2
        have e3 := (hb.cell (p := ⟨bb, _, none⟩) hbl).trans c3
        have e4 := (hb.cell (p := ⟨bb, _, none⟩) hbl).trans c4
        clear c0 c1 c2 c3 c4
        obtain ⟨ht, hle⟩ := Syn.countL_le ds j _ hd
        have hwt1 := Syn.wt_le hd
        simp only [Syn.wt] at hwt1
        have hsl := idL_length (ds.take j) (acc)
        have hst := idL_take hd (acc)
        have hone := idL_one (ds := ds.take j) HO.out
        rw [idD_mk] at hst
        have hmem := List.mem_of_getElem? hd
        simp only [Syn.count] at hle ht
        generalize hcur : idL (ds.take j) (acc) = cur at *
        have HD := Lib.hid hd; clear hd; have HI1 := Lib.hid hi1; clear hi1; have HX1 := Lib.hid hx1; clear hx1; have HIN1 := Lib.hid hin1; clear hin1; have HM' := Lib.hid hm'; clear hm'; have HMEM := Lib.hid hmem; clear hmem; have HST := Lib.hid hst; clear hst; have HCUR := Lib.hid hcur; clear hcur; have HIC := Lib.hid hic; clear hic; have HONE := Lib.hid hone; clear hone
        go_wp2_with fail
        refine (IH.out k1 n1 s1 x1 ds1 HMEM.out k1 n1 s1 x1 xa1 xc1 a1 cap1 ms1 cur b' bc' mc w0 _ (by have := HOK.out; exact (Syn.ok_mk.1 this).2.2 _ HMEM.out) (by omega) (by omega) HI1.out HX1.out HIN1.out HONE.out HIC.out (by (exact M.Mine.mono (M.Mine.keep HM'.out (fun b hb1 hb2 => by (try simp at hb1); simp (disch := (first | omega | (simp; omega))) only [heapSet, heapNew, heapDrew, heapDrewN])) (by first | omega | (simp; done) | (simp; omega)))) (by (repeat (first | with_reducible assumption | with_reducible exact Below.refl _ _ | with_reducible refine Below.drew ?_ | with_reducible refine belowDrewN ?_ _ | ((with_reducible refine Below.setCell ?_ ?_ _); rotate_left; focus (first | omega | (simp; done) | (simp; omega))) | ((with_reducible refine Below.alloc ?_ ?_ _); rotate_left; focus (first | omega | (simp; done) | (simp; omega))))))).mono ?_
        rintro e w9 ⟨a9, c9, m9, rfl, hi9, hm9, hb9⟩
        go_wp2_with fail
        go_roundw
        case rel => exact ⟨j + 1, a9, c9, m9, by omega, by go_num, by first | rfl | trivial, by rw [HST.out]; exact hi9, hm9, by (repeat (first | with_reducible assumption | with_reducible exact Below.refl _ _ | with_reducible refine Below.drew ?_ | with_reducible refine belowDrewN ?_ _ | ((with_reducible refine Below.setCell ?_ ?_ _); rotate_left; focus (first | omega | (simp; done) | (simp; omega))) | ((with_reducible refine Below.alloc ?_ ?_ _); rotate_left; focus (first | omega | (simp; done) | (simp; omega))) | ((with_reducible refine Below.trans ?_ (Below.mono hb9 ?_)); rotate_left; focus (first | omega | (simp; done) | (simp; omega)))))⟩
        case measure => simp [intOf]; omega
      · have hk2 : j = ms.length := by omega
        subst hk2
        rw [HL.out, List.take_length] at hic
        have HIC := Lib.hid hic; clear hic; have HM' := Lib.hid hm'; clear hm'
        go_wp2_with fail
        go_ret
        exact ⟨b', bc', mc, rfl, HIC.out, HM'.out, by (repeat (first | with_reducible assumption | with_reducible exact Below.refl _ _ | with_reducible refine Below.drew ?_ | with_reducible refine belowDrewN ?_ _ | ((with_reducible refine Below.setCell ?_ ?_ _); rotate_left; focus (first | omega | (simp; done) | (simp; omega))) | ((with_reducible refine Below.alloc ?_ ?_ _); rotate_left; focus (first | omega | (simp; done) | (simp; omega)))))⟩
set_option maxHeartbeats 1000000 in
theorem sIdentifiersIn_calls (k n : Int) (s : ByteArray) (x : List Int) (ds : List Syn) (xa : Option Addr) (xc : Nat) (a : Option Addr) (cap : Nat) (ms : List M) (w : World) (hwf : (Syn.mk k n s x ds).wf) (hcB : Syn.countL ds ≤ 900000000) (hB : s.size + (x.length + (ds.length + Syn.wtX ds)) ≤ 2000000) (hi : Syn.IsL 43 ds ms) (hown : (SynOwn 43 xa xc x a cap ms).In w) :
    Calls Try.prog 33 #[.agg #[.int .i64 k, .int .i64 n, .string s, .slice xa x.length xc, .slice a ms.length cap]] w (RetSyns 43 (idsOf k n s x ds) w) := by
  have hx := SynIn_x hown
  have hin := SynIn_ms hown
  have hcap := hin.len
  have hxl := Ints.len hx
  have HI := Lib.hid hi; clear hi; have HX := Lib.hid hx; clear hx; have HIN := Lib.hid hin; clear hin; have HOWN := Lib.hid hown; clear hown; have HWF := Lib.hid hwf; clear hwf
  go_enter Try.func33, Try.ntmps33
  go_wp2_with fail
  refine (sIsSyntax_calls k n s x ds xa xc a cap ms _ HWF.out (by omega) HI.out (HOWN.out.below (by (repeat (first | with_reducible assumption | with_reducible exact Below.refl _ _ | with_reducible refine Below.drew ?_ | with_reducible refine belowDrewN ?_ _ | ((with_reducible refine Below.setCell ?_ ?_ _); rotate_left; focus (first | omega | (simp; done) | (simp; omega))) | ((with_reducible refine Below.alloc ?_ ?_ _); rotate_left; focus (first | omega | (simp; done) | (simp; omega)))))))).mono ?_
  rintro e w1 ⟨rfl, hb1⟩
  obtain ⟨hc1, hf1⟩ := bcell hb1; have hz1 := hb1.size; (try simp only [World.size_alloc, World.size_setCell, World.size_drew, sizeDrewN] at hz1 hc1 hf1); have hp1_0 : w.heap.size < w1.heap.size := (by omega)
  have hq : SBox w.heap.size k n s (.slice xa x.length xc) (.slice a ms.length cap) w1 := by constructor <;> first | (simp (disch := omega) [hc1, hf1, go_sem]; done) | (simp (disch := omega) [hc1, hf1, go_sem]; rfl)
  obtain ⟨q0, q1, q2, q3, q4, e0, e1, e2, e3, e4⟩ := hq
  clear hc1 hf1
  cases hv : isSynB k n s x ds with
  | true =>
    have hs : idsOf k n s x ds = idL ds (addI k n s x ds []) := by unfold idsOf; rw [if_pos hv]
    have HS := Lib.hid hs; clear hs; have HV := Lib.hid hv; clear hv
    go_wp2_with fail
    refine (l2Ids_calls ds k n s x xa xc a cap ms [] (some ⟨w1.heap.size, 0, none⟩) 0 [] w _ (by simp; omega) hB HI.out HX.out HIN.out (by intro y hy; cases hy) rfl (M.Mine.new rfl (by first | omega | (simp; omega)) rfl (by decide) (by simp [M.cellsL]) (by simp [maxLen]) ⟨trivial, by simp [M.blocksL]⟩) (by (repeat (first | with_reducible assumption | with_reducible exact Below.refl _ _ | with_reducible refine Below.drew ?_ | with_reducible refine belowDrewN ?_ _ | ((with_reducible refine Below.setCell ?_ ?_ _); rotate_left; focus (first | omega | (simp; done) | (simp; omega))) | ((with_reducible refine Below.alloc ?_ ?_ _); rotate_left; focus (first | omega | (simp; done) | (simp; omega))) | ((with_reducible refine Below.trans ?_ (Below.mono hb1 ?_)); rotate_left; focus (first | omega | (simp; done) | (simp; omega))))))).mono ?_
    rintro e w2 ⟨a2, c2, m2, rfl, hi2, hm2, hb2⟩
    have HM2 := Lib.hid hm2; clear hm2; have HI2 := Lib.hid hi2; clear hi2
    go_wp2_with fail
    go_ret
    exact ⟨a2, c2, m2, rfl, by rw [HS.out]; exact HI2.out, HM2.out, by (repeat (first | with_reducible assumption | with_reducible exact Below.refl _ _ | with_reducible refine Below.drew ?_ | with_reducible refine belowDrewN ?_ _ | ((with_reducible refine Below.setCell ?_ ?_ _); rotate_left; focus (first | omega | (simp; done) | (simp; omega))) | ((with_reducible refine Below.alloc ?_ ?_ _); rotate_left; focus (first | omega | (simp; done) | (simp; omega))) | ((with_reducible refine Below.trans ?_ (Below.mono hb2 ?_)); rotate_left; focus (first | omega | (simp; done) | (simp; omega)))))⟩
  | false =>
    have hs : idsOf k n s x ds = [] := by unfold idsOf; rw [if_neg (by rw [hv]; decide)]
    have HS := Lib.hid hs; clear hs; have HV := Lib.hid hv; clear hv
    go_wp2_with fail
    go_ret
    exact ⟨none, 0, [], rfl, by rw [HS.out]; rfl, M.Mine.nil _ _ _ _ (by decide), by (repeat (first | with_reducible assumption | with_reducible exact Below.refl _ _ | with_reducible refine Below.drew ?_ | with_reducible refine belowDrewN ?_ _ | ((with_reducible refine Below.setCell ?_ ?_ _); rotate_left; focus (first | omega | (simp; done) | (simp; omega))) | ((with_reducible refine Below.alloc ?_ ?_ _); rotate_left; focus (first | omega | (simp; done) | (simp; omega))) | ((with_reducible refine Below.trans ?_ (Below.mono hb1 ?_)); rotate_left; focus (first | omega | (simp; done) | (simp; omega)))))⟩
set_option maxHeartbeats 1000000 in
theorem iIdentifiersIn_calls (k n : Int) (s : ByteArray) (x : List Int) (ds : List Syn) (xa : Option Addr) (xc : Nat) (a : Option Addr) (cap : Nat) (ms : List M) (w : World) (hwf : (Syn.mk k n s x ds).wf) (hcB : Syn.countL ds ≤ 900000000) (hB : s.size + (x.length + (ds.length + Syn.wtX ds)) ≤ 2000000) (hi : Syn.IsL 43 ds ms) (hown : (SynOwn 43 xa xc x a cap ms).In w) :
    Calls Try.prog 35 #[.agg #[.int .i64 k, .int .i64 n, .string s, .slice xa x.length xc, .slice a ms.length cap]] w (RetSyns 43 (idsOf k n s x ds) w) := by
  have hx := SynIn_x hown
  have hin := SynIn_ms hown
  have hcap := hin.len
  have hxl := Ints.len hx
  have HI := Lib.hid hi; clear hi; have HX := Lib.hid hx; clear hx; have HIN := Lib.hid hin; clear hin; have HOWN := Lib.hid hown; clear hown; have HWF := Lib.hid hwf; clear hwf
  go_enter Try.func35, Try.ntmps35
  go_wp2_with fail
  refine (iIsSyntax_calls k n s x ds xa xc a cap ms _ HWF.out (by omega) HI.out (HOWN.out.below (by (repeat (first | with_reducible assumption | with_reducible exact Below.refl _ _ | with_reducible refine Below.drew ?_ | with_reducible refine belowDrewN ?_ _ | ((with_reducible refine Below.setCell ?_ ?_ _); rotate_left; focus (first | omega | (simp; done) | (simp; omega))) | ((with_reducible refine Below.alloc ?_ ?_ _); rotate_left; focus (first | omega | (simp; done) | (simp; omega)))))))).mono ?_
  rintro e w1 ⟨rfl, hb1⟩
  obtain ⟨hc1, hf1⟩ := bcell hb1; have hz1 := hb1.size; (try simp only [World.size_alloc, World.size_setCell, World.size_drew, sizeDrewN] at hz1 hc1 hf1); have hp1_0 : w.heap.size < w1.heap.size := (by omega)
  have hq : SBox w.heap.size k n s (.slice xa x.length xc) (.slice a ms.length cap) w1 := by constructor <;> first | (simp (disch := omega) [hc1, hf1, go_sem]; done) | (simp (disch := omega) [hc1, hf1, go_sem]; rfl)
  obtain ⟨q0, q1, q2, q3, q4, e0, e1, e2, e3, e4⟩ := hq
  clear hc1 hf1
  cases hv : isSynB k n s x ds with
  | true =>
    have hs : idsOf k n s x ds = idL ds (addI k n s x ds []) := by unfold idsOf; rw [if_pos hv]
    have HS := Lib.hid hs; clear hs; have HV := Lib.hid hv; clear hv
    go_wp2_with fail
    refine (collectIdentifiers_calls ds k n s x xa xc a cap ms [] none 0 [] w _ (isSynB_ok' HV.out) (by simp; omega) hB HI.out HX.out HIN.out (by intro y hy; cases hy) rfl (M.Mine.nil _ _ _ _ (by decide)) (by (repeat (first | with_reducible assumption | with_reducible exact Below.refl _ _ | with_reducible refine Below.drew ?_ | with_reducible refine belowDrewN ?_ _ | ((with_reducible refine Below.setCell ?_ ?_ _); rotate_left; focus (first | omega | (simp; done) | (simp; omega))) | ((with_reducible refine Below.alloc ?_ ?_ _); rotate_left; focus (first | omega | (simp; done) | (simp; omega))) | ((with_reducible refine Below.trans ?_ (Below.mono hb1 ?_)); rotate_left; focus (first | omega | (simp; done) | (simp; omega))))))).mono ?_
    rintro e w2 ⟨a2, c2, m2, rfl, hi2, hm2, hb2⟩
    have HM2 := Lib.hid hm2; clear hm2; have HI2 := Lib.hid hi2; clear hi2
    go_wp2_with fail
    go_ret
    exact ⟨a2, c2, m2, rfl, by rw [HS.out]; exact HI2.out, HM2.out, by (repeat (first | with_reducible assumption | with_reducible exact Below.refl _ _ | with_reducible refine Below.drew ?_ | with_reducible refine belowDrewN ?_ _ | ((with_reducible refine Below.setCell ?_ ?_ _); rotate_left; focus (first | omega | (simp; done) | (simp; omega))) | ((with_reducible refine Below.alloc ?_ ?_ _); rotate_left; focus (first | omega | (simp; done) | (simp; omega))) | ((with_reducible refine Below.trans ?_ (Below.mono hb2 ?_)); rotate_left; focus (first | omega | (simp; done) | (simp; omega)))))⟩
  | false =>
    have hs : idsOf k n s x ds = [] := by unfold idsOf; rw [if_neg (by rw [hv]; decide)]
    have HS := Lib.hid hs; clear hs; have HV := Lib.hid hv; clear hv
    go_wp2_with fail
    go_ret
    exact ⟨none, 0, [], rfl, by rw [HS.out]; rfl, M.Mine.nil _ _ _ _ (by decide), by (repeat (first | with_reducible assumption | with_reducible exact Below.refl _ _ | with_reducible refine Below.drew ?_ | with_reducible refine belowDrewN ?_ _ | ((with_reducible refine Below.setCell ?_ ?_ _); rotate_left; focus (first | omega | (simp; done) | (simp; omega))) | ((with_reducible refine Below.alloc ?_ ?_ _); rotate_left; focus (first | omega | (simp; done) | (simp; omega))) | ((with_reducible refine Below.trans ?_ (Below.mono hb1 ?_)); rotate_left; focus (first | omega | (simp; done) | (simp; omega)))))⟩
end Go.Proofs.Ytoflfamfhpijcaa
