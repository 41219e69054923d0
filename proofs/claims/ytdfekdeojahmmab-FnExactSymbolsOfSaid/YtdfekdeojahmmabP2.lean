/-
  Walks: SymbolsOf. No condition. (printed by wip/tools/mkp2.py)
-/
import Derived.Test.YtdfekdeojahmmabP1
set_option linter.unusedVariables false
set_option linter.unusedSimpArgs false
set_option maxRecDepth 100000
namespace Go.Proofs.Ytdfekdeojahmmab
open Go.RowKit

def SsDs (ds : List Dat) : Prop := ∀ (k n : Int) (s : ByteArray) (a : Option Addr) (cap : Nat) (ms : List M) (acc : List ByteArray) (b : Option Addr) (bc : Nat) (w0 w : World), acc.length + (1 + Dat.countL ds) ≤ 1000000000 → Dat.IsL 40 ds ms → (M.sl a cap 4 40 ms).In w0 →
    (M.sl b bc 1 9 (strM acc)).Mine w w0.heap.size → Below w0.heap.size w0 w →
    Calls Try.prog 142 #[.agg #[.int .i64 k, .int .i64 n, .string s, .slice a ms.length cap], .slice b acc.length bc] w (RetTx (symL ds (addT k s acc)) w0)
set_option maxHeartbeats 1000000 in
theorem l1Symbols_calls : ∀ ds, SsDs ds := by
  refine Dat.inductL fun ds ih => ?_
  intro k n s a cap ms acc b bc w0 w hB hi hin hm hb0
  have hl := hi.length
  have hcap := hin.len
  have hz0 := hb0.size
  have IH := Lib.hid ih; clear ih; have HIN := Lib.hid hin; clear hin; have HI := Lib.hid hi; clear hi; have HL := Lib.hid hl; clear hl; have HM := Lib.hid hm; clear hm
  go_enter Try.func142, Try.ntmps142
  by_cases hk : k = 1
  · subst hk
    by_cases hin2 : s ∈ acc
    · have hA := addT_in hin2 1
      have hh := (hasT_iff acc s).2 hin2
      rw [hA]
      have HA := Lib.hid hA; clear hA; have HIN2 := Lib.hid hin2; clear hin2
      go_wp2_with fail
      refine (l1Has_calls b bc acc s _ (HM.out.in_.below (by (repeat (first | with_reducible assumption | with_reducible exact Below.refl _ _ | with_reducible refine Below.drew ?_ | with_reducible refine belowDrewN ?_ _ | ((with_reducible refine Below.setCell ?_ ?_ _); rotate_left; focus (first | omega | (simp; done) | (simp; omega))) | ((with_reducible refine Below.alloc ?_ ?_ _); rotate_left; focus (first | omega | (simp; done) | (simp; omega)))))))).mono ?_
      rintro e w1 ⟨rfl, rfl⟩
      rw [hh]
      go_wp2_with fail
      go_loopw [1, 25] (fun t i wr => ∃ (j : Nat) (b' : Option Addr) (bc' : Nat), j ≤ ms.length ∧ i = .int .i64 j ∧ t = .slice b' (symL (ds.take j) (acc)).length bc' ∧ (M.sl b' bc' 1 9 (strM (symL (ds.take j) (acc)))).Mine wr w0.heap.size ∧ Below w0.heap.size w0 wr) (fun _ i _ => ms.length - (intOf i).toNat)
      case atStart => exact ⟨0, b, bc, Nat.zero_le _, rfl, by simp [symL_nil], by rw [List.take_zero, symL_nil]; (exact M.Mine.mono (M.Mine.keep HM.out (fun b hb1 hb2 => by (try simp at hb1); simp (disch := (first | omega | (simp; omega))) only [heapSet, heapNew, heapDrew, heapDrewN])) (by first | omega | (simp; done) | (simp; omega))), by (repeat (first | with_reducible assumption | with_reducible exact Below.refl _ _ | with_reducible refine Below.drew ?_ | with_reducible refine belowDrewN ?_ _ | ((with_reducible refine Below.setCell ?_ ?_ _); rotate_left; focus (first | omega | (simp; done) | (simp; omega))) | ((with_reducible refine Below.alloc ?_ ?_ _); rotate_left; focus (first | omega | (simp; done) | (simp; omega)))))⟩
      case round =>
        obtain ⟨j, b', bc', hj, rfl, rfl, hm', hb⟩ := hrel
        have hz := hb.size
        by_cases hlt : j < ms.length
        · obtain ⟨bb, off, k1, n1, s1, ds1, a1, cap1, ms1, rfl, hd, hi1, hin1, c0, c1, c2, c3⟩ := Dat.elem HIN.out HI.out j hlt
          have hbl := World.block_lt_of_cell? w0 _ c0
          simp only at hbl
          have e0 := (hb.cell (p := ⟨bb, _, none⟩) hbl).trans c0
          have e1 := (hb.cell (p := ⟨bb, _, none⟩) hbl).trans c1
          have e2 := (hb.cell (p := ⟨bb, _, none⟩) hbl).trans c2
          have e3 := (hb.cell (p := ⟨bb, _, none⟩) hbl).trans c3
          clear c0 c1 c2 c3
          obtain ⟨ht, hle⟩ := Dat.countL_le ds j _ hd
          have hsl := symL_length (ds.take j) (acc)
          have hst := symL_take hd (acc)
          rw [symD_mk] at hst
          have hmem := List.mem_of_getElem? hd
          simp only [Dat.count] at hle ht
          generalize hcur : symL (ds.take j) (acc) = cur at *
          have HD := Lib.hid hd; clear hd; have HI1 := Lib.hid hi1; clear hi1; have HIN1 := Lib.hid hin1; clear hin1; have HM' := Lib.hid hm'; clear hm'; have HMEM := Lib.hid hmem; clear hmem; have HST := Lib.hid hst; clear hst; have HCUR := Lib.hid hcur; clear hcur
          go_wp2_with fail
          refine (IH.out k1 n1 s1 ds1 HMEM.out k1 n1 s1 a1 cap1 ms1 cur b' bc' w0 _ (by omega) HI1.out HIN1.out (by (exact M.Mine.mono (M.Mine.keep HM'.out (fun b hb1 hb2 => by (try simp at hb1); simp (disch := (first | omega | (simp; omega))) only [heapSet, heapNew, heapDrew, heapDrewN])) (by first | omega | (simp; done) | (simp; omega)))) (by (repeat (first | with_reducible assumption | with_reducible exact Below.refl _ _ | with_reducible refine Below.drew ?_ | with_reducible refine belowDrewN ?_ _ | ((with_reducible refine Below.setCell ?_ ?_ _); rotate_left; focus (first | omega | (simp; done) | (simp; omega))) | ((with_reducible refine Below.alloc ?_ ?_ _); rotate_left; focus (first | omega | (simp; done) | (simp; omega))))))).mono ?_
          rintro e w9 ⟨a9, c9, rfl, hm9, hb9⟩
          go_wp2_with fail
          go_roundw
          case rel => exact ⟨j + 1, a9, c9, by omega, by go_num, by rw [HST.out], by rw [HST.out]; exact hm9, by (repeat (first | with_reducible assumption | with_reducible exact Below.refl _ _ | with_reducible refine Below.drew ?_ | with_reducible refine belowDrewN ?_ _ | ((with_reducible refine Below.setCell ?_ ?_ _); rotate_left; focus (first | omega | (simp; done) | (simp; omega))) | ((with_reducible refine Below.alloc ?_ ?_ _); rotate_left; focus (first | omega | (simp; done) | (simp; omega))) | ((with_reducible refine Below.trans ?_ (Below.mono hb9 ?_)); rotate_left; focus (first | omega | (simp; done) | (simp; omega)))))⟩
          case measure => simp [intOf]; omega
        · have hk2 : j = ms.length := by omega
          subst hk2
          have hfin : symL ds (acc) = symL (ds.take ms.length) (acc) := by rw [HL.out, List.take_length]
          have HFIN := Lib.hid hfin; clear hfin; have HM' := Lib.hid hm'; clear hm'
          go_wp2_with fail
          go_ret
          exact ⟨b', bc', by rw [HFIN.out]; rfl, by rw [HFIN.out]; exact HM'.out, by (repeat (first | with_reducible assumption | with_reducible exact Below.refl _ _ | with_reducible refine Below.drew ?_ | with_reducible refine belowDrewN ?_ _ | ((with_reducible refine Below.setCell ?_ ?_ _); rotate_left; focus (first | omega | (simp; done) | (simp; omega))) | ((with_reducible refine Below.alloc ?_ ?_ _); rotate_left; focus (first | omega | (simp; done) | (simp; omega)))))⟩
    · have hA := addT_new hin2
      have hh := (hasT_not acc s).2 hin2
      rw [hA]
      have HA := Lib.hid hA; clear hA; have HIN2 := Lib.hid hin2; clear hin2
      go_wp2_with fail
      refine (l1Has_calls b bc acc s _ (HM.out.in_.below (by (repeat (first | with_reducible assumption | with_reducible exact Below.refl _ _ | with_reducible refine Below.drew ?_ | with_reducible refine belowDrewN ?_ _ | ((with_reducible refine Below.setCell ?_ ?_ _); rotate_left; focus (first | omega | (simp; done) | (simp; omega))) | ((with_reducible refine Below.alloc ?_ ?_ _); rotate_left; focus (first | omega | (simp; done) | (simp; omega)))))))).mono ?_
      rintro e w1 ⟨rfl, rfl⟩
      rw [hh]
      go_wp2_with (at_builtin; refine wpStrs_push (wr := w) rfl _ _ 100 rfl 9 _ Try.underlying100 infoS rfl w0.heap.size b bc acc rfl HM.out hz0 (by (repeat (first | with_reducible assumption | with_reducible exact Below.refl _ _ | with_reducible refine Below.drew ?_ | with_reducible refine belowDrewN ?_ _ | ((with_reducible refine Below.setCell ?_ ?_ _); rotate_left; focus (first | omega | (simp; done) | (simp; omega))) | ((with_reducible refine Below.alloc ?_ ?_ _); rotate_left; focus (first | omega | (simp; done) | (simp; omega)))))) s (by simp [go_sem]) (by omega) ?_)
      intro a3 cap3 w3 hm3 hb3 hz3 hk3
      have hno : w.heap.size ∉ addrBlocks b := fun hx => by have := (Mine.addr_lo HM.out _ hx).2; omega
      have q3 : w3.cell? ⟨w.heap.size, 3, none⟩ = some (.slice a ms.length cap) := (World.cell?_of_block (hk3 w.heap.size (by simp) hno)).trans (by simp [go_sem])
      have hlen3 : (acc ++ [s]).length = acc.length + 1 := by simp
      have HM3 := Lib.hid hm3; clear hm3
      have hbw : Below w0.heap.size w0 w3 := by (repeat (first | with_reducible assumption | with_reducible exact Below.refl _ _ | with_reducible refine Below.drew ?_ | with_reducible refine belowDrewN ?_ _ | ((with_reducible refine Below.setCell ?_ ?_ _); rotate_left; focus (first | omega | (simp; done) | (simp; omega))) | ((with_reducible refine Below.alloc ?_ ?_ _); rotate_left; focus (first | omega | (simp; done) | (simp; omega))) | ((with_reducible refine Below.trans ?_ (Below.mono hb3 ?_)); rotate_left; focus (first | omega | (simp; done) | (simp; omega)))))
      go_wp2_with fail
      go_loopw [1, 25] (fun t i wr => ∃ (j : Nat) (b' : Option Addr) (bc' : Nat), j ≤ ms.length ∧ i = .int .i64 j ∧ t = .slice b' (symL (ds.take j) (acc ++ [s])).length bc' ∧ (M.sl b' bc' 1 9 (strM (symL (ds.take j) (acc ++ [s])))).Mine wr w0.heap.size ∧ Below w0.heap.size w0 wr) (fun _ i _ => ms.length - (intOf i).toNat)
      case atStart => exact ⟨0, a3, cap3, Nat.zero_le _, rfl, by simp [symL_nil], by rw [List.take_zero, symL_nil]; (exact M.Mine.mono (M.Mine.keep HM3.out (fun b hb1 hb2 => by (try simp at hb1); simp (disch := (first | omega | (simp; omega))) only [heapSet, heapNew, heapDrew, heapDrewN])) (by first | omega | (simp; done) | (simp; omega))), by (repeat (first | with_reducible assumption | with_reducible exact Below.refl _ _ | with_reducible refine Below.drew ?_ | with_reducible refine belowDrewN ?_ _ | ((with_reducible refine Below.setCell ?_ ?_ _); rotate_left; focus (first | omega | (simp; done) | (simp; omega))) | ((with_reducible refine Below.alloc ?_ ?_ _); rotate_left; focus (first | omega | (simp; done) | (simp; omega))) | ((with_reducible refine Below.trans ?_ (Below.mono hb3 ?_)); rotate_left; focus (first | omega | (simp; done) | (simp; omega)))))⟩
      case round =>
        obtain ⟨j, b', bc', hj, rfl, rfl, hm', hb⟩ := hrel
        have hz := hb.size
        by_cases hlt : j < ms.length
        · obtain ⟨bb, off, k1, n1, s1, ds1, a1, cap1, ms1, rfl, hd, hi1, hin1, c0, c1, c2, c3⟩ := Dat.elem HIN.out HI.out j hlt
          have hbl := World.block_lt_of_cell? w0 _ c0
          simp only at hbl
          have e0 := (hb.cell (p := ⟨bb, _, none⟩) hbl).trans c0
          have e1 := (hb.cell (p := ⟨bb, _, none⟩) hbl).trans c1
          have e2 := (hb.cell (p := ⟨bb, _, none⟩) hbl).trans c2
          have e3 := (hb.cell (p := ⟨bb, _, none⟩) hbl).trans c3
          clear c0 c1 c2 c3
          obtain ⟨ht, hle⟩ := Dat.countL_le ds j _ hd
          have hsl := symL_length (ds.take j) (acc ++ [s])
          have hst := symL_take hd (acc ++ [s])
          rw [symD_mk] at hst
          have hmem := List.mem_of_getElem? hd
          simp only [Dat.count] at hle ht
          generalize hcur : symL (ds.take j) (acc ++ [s]) = cur at *
          have HD := Lib.hid hd; clear hd; have HI1 := Lib.hid hi1; clear hi1; have HIN1 := Lib.hid hin1; clear hin1; have HM' := Lib.hid hm'; clear hm'; have HMEM := Lib.hid hmem; clear hmem; have HST := Lib.hid hst; clear hst; have HCUR := Lib.hid hcur; clear hcur
          go_wp2_with fail
          refine (IH.out k1 n1 s1 ds1 HMEM.out k1 n1 s1 a1 cap1 ms1 cur b' bc' w0 _ (by omega) HI1.out HIN1.out (by (exact M.Mine.mono (M.Mine.keep HM'.out (fun b hb1 hb2 => by (try simp at hb1); simp (disch := (first | omega | (simp; omega))) only [heapSet, heapNew, heapDrew, heapDrewN])) (by first | omega | (simp; done) | (simp; omega)))) (by (repeat (first | with_reducible assumption | with_reducible exact Below.refl _ _ | with_reducible refine Below.drew ?_ | with_reducible refine belowDrewN ?_ _ | ((with_reducible refine Below.setCell ?_ ?_ _); rotate_left; focus (first | omega | (simp; done) | (simp; omega))) | ((with_reducible refine Below.alloc ?_ ?_ _); rotate_left; focus (first | omega | (simp; done) | (simp; omega))))))).mono ?_
          rintro e w9 ⟨a9, c9, rfl, hm9, hb9⟩
          go_wp2_with fail
          go_roundw
          case rel => exact ⟨j + 1, a9, c9, by omega, by go_num, by rw [HST.out], by rw [HST.out]; exact hm9, by (repeat (first | with_reducible assumption | with_reducible exact Below.refl _ _ | with_reducible refine Below.drew ?_ | with_reducible refine belowDrewN ?_ _ | ((with_reducible refine Below.setCell ?_ ?_ _); rotate_left; focus (first | omega | (simp; done) | (simp; omega))) | ((with_reducible refine Below.alloc ?_ ?_ _); rotate_left; focus (first | omega | (simp; done) | (simp; omega))) | ((with_reducible refine Below.trans ?_ (Below.mono hb9 ?_)); rotate_left; focus (first | omega | (simp; done) | (simp; omega)))))⟩
          case measure => simp [intOf]; omega
        · have hk2 : j = ms.length := by omega
          subst hk2
          have hfin : symL ds (acc ++ [s]) = symL (ds.take ms.length) (acc ++ [s]) := by rw [HL.out, List.take_length]
          have HFIN := Lib.hid hfin; clear hfin; have HM' := Lib.hid hm'; clear hm'
          go_wp2_with fail
          go_ret
          exact ⟨b', bc', by rw [HFIN.out]; rfl, by rw [HFIN.out]; exact HM'.out, by (repeat (first | with_reducible assumption | with_reducible exact Below.refl _ _ | with_reducible refine Below.drew ?_ | with_reducible refine belowDrewN ?_ _ | ((with_reducible refine Below.setCell ?_ ?_ _); rotate_left; focus (first | omega | (simp; done) | (simp; omega))) | ((with_reducible refine Below.alloc ?_ ?_ _); rotate_left; focus (first | omega | (simp; done) | (simp; omega)))))⟩
  · have hA := addT_other hk s acc
    have hkb : (k == 1) = false := by simp [hk]
    rw [hA]
    have HA := Lib.hid hA; clear hA; have HK := Lib.hid hk; clear hk
    go_wp2_with fail
    go_loopw [1, 25] (fun t i wr => ∃ (j : Nat) (b' : Option Addr) (bc' : Nat), j ≤ ms.length ∧ i = .int .i64 j ∧ t = .slice b' (symL (ds.take j) (acc)).length bc' ∧ (M.sl b' bc' 1 9 (strM (symL (ds.take j) (acc)))).Mine wr w0.heap.size ∧ Below w0.heap.size w0 wr) (fun _ i _ => ms.length - (intOf i).toNat)
    case atStart => exact ⟨0, b, bc, Nat.zero_le _, rfl, by simp [symL_nil], by rw [List.take_zero, symL_nil]; (exact M.Mine.mono (M.Mine.keep HM.out (fun b hb1 hb2 => by (try simp at hb1); simp (disch := (first | omega | (simp; omega))) only [heapSet, heapNew, heapDrew, heapDrewN])) (by first | omega | (simp; done) | (simp; omega))), by (repeat (first | with_reducible assumption | with_reducible exact Below.refl _ _ | with_reducible refine Below.drew ?_ | with_reducible refine belowDrewN ?_ _ | ((with_reducible refine Below.setCell ?_ ?_ _); rotate_left; focus (first | omega | (simp; done) | (simp; omega))) | ((with_reducible refine Below.alloc ?_ ?_ _); rotate_left; focus (first | omega | (simp; done) | (simp; omega)))))⟩
    case round =>
      obtain ⟨j, b', bc', hj, rfl, rfl, hm', hb⟩ := hrel
      have hz := hb.size
      by_cases hlt : j < ms.length
      · obtain ⟨bb, off, k1, n1, s1, ds1, a1, cap1, ms1, rfl, hd, hi1, hin1, c0, c1, c2, c3⟩ := Dat.elem HIN.out HI.out j hlt
        have hbl := World.block_lt_of_cell? w0 _ c0
        simp only at hbl
        have e0 := (hb.cell (p := ⟨bb, _, none⟩) hbl).trans c0
        have e1 := (hb.cell (p := ⟨bb, _, none⟩) hbl).trans c1
        have e2 := (hb.cell (p := ⟨bb, _, none⟩) hbl).trans c2
        have e3 := (hb.cell (p := ⟨bb, _, none⟩) hbl).trans c3
        clear c0 c1 c2 c3
        obtain ⟨ht, hle⟩ := Dat.countL_le ds j _ hd
        have hsl := symL_length (ds.take j) (acc)
        have hst := symL_take hd (acc)
        rw [symD_mk] at hst
        have hmem := List.mem_of_getElem? hd
        simp only [Dat.count] at hle ht
        generalize hcur : symL (ds.take j) (acc) = cur at *
        have HD := Lib.hid hd; clear hd; have HI1 := Lib.hid hi1; clear hi1; have HIN1 := Lib.hid hin1; clear hin1; have HM' := Lib.hid hm'; clear hm'; have HMEM := Lib.hid hmem; clear hmem; have HST := Lib.hid hst; clear hst; have HCUR := Lib.hid hcur; clear hcur
        go_wp2_with fail
        refine (IH.out k1 n1 s1 ds1 HMEM.out k1 n1 s1 a1 cap1 ms1 cur b' bc' w0 _ (by omega) HI1.out HIN1.out (by (exact M.Mine.mono (M.Mine.keep HM'.out (fun b hb1 hb2 => by (try simp at hb1); simp (disch := (first | omega | (simp; omega))) only [heapSet, heapNew, heapDrew, heapDrewN])) (by first | omega | (simp; done) | (simp; omega)))) (by (repeat (first | with_reducible assumption | with_reducible exact Below.refl _ _ | with_reducible refine Below.drew ?_ | with_reducible refine belowDrewN ?_ _ | ((with_reducible refine Below.setCell ?_ ?_ _); rotate_left; focus (first | omega | (simp; done) | (simp; omega))) | ((with_reducible refine Below.alloc ?_ ?_ _); rotate_left; focus (first | omega | (simp; done) | (simp; omega))))))).mono ?_
        rintro e w9 ⟨a9, c9, rfl, hm9, hb9⟩
        go_wp2_with fail
        go_roundw
        case rel => exact ⟨j + 1, a9, c9, by omega, by go_num, by rw [HST.out], by rw [HST.out]; exact hm9, by (repeat (first | with_reducible assumption | with_reducible exact Below.refl _ _ | with_reducible refine Below.drew ?_ | with_reducible refine belowDrewN ?_ _ | ((with_reducible refine Below.setCell ?_ ?_ _); rotate_left; focus (first | omega | (simp; done) | (simp; omega))) | ((with_reducible refine Below.alloc ?_ ?_ _); rotate_left; focus (first | omega | (simp; done) | (simp; omega))) | ((with_reducible refine Below.trans ?_ (Below.mono hb9 ?_)); rotate_left; focus (first | omega | (simp; done) | (simp; omega)))))⟩
        case measure => simp [intOf]; omega
      · have hk2 : j = ms.length := by omega
        subst hk2
        have hfin : symL ds (acc) = symL (ds.take ms.length) (acc) := by rw [HL.out, List.take_length]
        have HFIN := Lib.hid hfin; clear hfin; have HM' := Lib.hid hm'; clear hm'
        go_wp2_with fail
        go_ret
        exact ⟨b', bc', by rw [HFIN.out]; rfl, by rw [HFIN.out]; exact HM'.out, by (repeat (first | with_reducible assumption | with_reducible exact Below.refl _ _ | with_reducible refine Below.drew ?_ | with_reducible refine belowDrewN ?_ _ | ((with_reducible refine Below.setCell ?_ ?_ _); rotate_left; focus (first | omega | (simp; done) | (simp; omega))) | ((with_reducible refine Below.alloc ?_ ?_ _); rotate_left; focus (first | omega | (simp; done) | (simp; omega)))))⟩
def SiDs (ds : List Dat) : Prop := ∀ (k n : Int) (s : ByteArray) (a : Option Addr) (cap : Nat) (ms : List M) (acc : List ByteArray) (b : Option Addr) (bc : Nat) (w0 w : World), (Dat.mk k n s ds).ok → acc.length + (1 + Dat.countL ds) ≤ 1000000000 → Dat.IsL 40 ds ms → (M.sl a cap 4 40 ms).In w0 →
    (M.sl b bc 1 9 (strM acc)).Mine w w0.heap.size → Below w0.heap.size w0 w →
    Calls Try.prog 143 #[.agg #[.int .i64 k, .int .i64 n, .string s, .slice a ms.length cap], .slice b acc.length bc] w (RetTx (symL ds (addT k s acc)) w0)
set_option maxHeartbeats 1000000 in
theorem collectSymbols_calls : ∀ ds, SiDs ds := by
  refine Dat.inductL fun ds ih => ?_
  intro k n s a cap ms acc b bc w0 w hok hB hi hin hm hb0
  have hl := hi.length
  have hcap := hin.len
  have hz0 := hb0.size
  have haz := Strs.len hm.in_
  have IH := Lib.hid ih; clear ih; have HIN := Lib.hid hin; clear hin; have HI := Lib.hid hi; clear hi; have HM := Lib.hid hm; clear hm
  go_enter Try.func143, Try.ntmps143
  by_cases hk : k = 1
  · subst hk
    have hds : ds = [] := by
      have := (Dat.ok_mk.1 hok).1
      rw [nodeB, if_neg (by decide), if_pos rfl] at this
      simp only [Bool.and_eq_true, decide_eq_true_eq] at this
      have := this.2.2
      exact List.length_eq_zero_iff.1 (by omega)
    subst hds
    rw [symL_nil]
    have HL := Lib.hid hl; clear hl; have HOK := Lib.hid hok; clear hok
    go_wp2_with fail
    go_loopw [6, 14] (fun t i wr => ∃ j : Nat, j ≤ acc.length ∧ i = .int .i64 j ∧ ¬ s ∈ acc.take j ∧ wr = w.alloc (.cells #[.int .i64 1, .int .i64 n, .string s, .slice a ms.length cap] 40)) (fun _ i _ => acc.length - (intOf i).toNat)
    case atStart => exact ⟨0, Nat.zero_le _, rfl, by simp, rfl⟩
    case round =>
      obtain ⟨j, hj, rfl, hno, rfl⟩ := hrel
      by_cases hlt : j < acc.length
      · obtain ⟨bb, off, x, rfl, hx, hc⟩ := Strs.elem HM.out.in_ j hlt
        have hbl := World.block_lt_of_cell? w _ hc
        simp only at hbl
        by_cases hxn : x = s
        · subst hxn
          have hmx := List.mem_of_getElem? hx
          have hA := addT_in hmx 1
          have HNO := Lib.hid hno; clear hno; have HX := Lib.hid hx; clear hx; have HMX := Lib.hid hmx; clear hmx; have HA := Lib.hid hA; clear hA
          go_wp2_with fail
          go_ret
          exact ⟨some ⟨bb, off, none⟩, bc, by rw [HA.out]; rfl, by rw [HA.out]; ((exact M.Mine.mono (M.Mine.keep HM.out (fun b hb1 hb2 => by (try simp at hb1); simp (disch := (first | omega | (simp; omega))) only [heapSet, heapNew, heapDrew, heapDrewN])) (by first | omega | (simp; done) | (simp; omega)))), by (repeat (first | with_reducible assumption | with_reducible exact Below.refl _ _ | with_reducible refine Below.drew ?_ | with_reducible refine belowDrewN ?_ _ | ((with_reducible refine Below.setCell ?_ ?_ _); rotate_left; focus (first | omega | (simp; done) | (simp; omega))) | ((with_reducible refine Below.alloc ?_ ?_ _); rotate_left; focus (first | omega | (simp; done) | (simp; omega)))))⟩
        · have hxb := ba_ne hxn
          have hnx : ¬ s ∈ acc.take (j + 1) := by
            rw [mem_take_succ hx]
            intro h
            rcases h with h | h
            · exact hno h
            · exact hxn h.symm
          have HNO := Lib.hid hno; clear hno; have HX := Lib.hid hx; clear hx; have HXN := Lib.hid hxn; clear hxn; have HNX := Lib.hid hnx; clear hnx
          go_wp2_with fail
          go_roundw
          case rel => exact ⟨j + 1, by omega, by go_num, HNX.out, by first | rfl | trivial⟩
          case measure => simp [intOf]; omega
      · have hk2 : j = acc.length := by omega
        subst hk2
        rw [List.take_length] at hno
        have hA := addT_new hno
        have HA := Lib.hid hA; clear hA; have HNO := Lib.hid hno; clear hno
        go_wp2_with (at_builtin; refine wpStrs_push (wr := w) rfl _ _ 100 rfl 9 _ Try.underlying100 infoS rfl w0.heap.size b bc acc rfl HM.out hz0 (by (repeat (first | with_reducible assumption | with_reducible exact Below.refl _ _ | with_reducible refine Below.drew ?_ | with_reducible refine belowDrewN ?_ _ | ((with_reducible refine Below.setCell ?_ ?_ _); rotate_left; focus (first | omega | (simp; done) | (simp; omega))) | ((with_reducible refine Below.alloc ?_ ?_ _); rotate_left; focus (first | omega | (simp; done) | (simp; omega)))))) s (by simp [go_sem]) (by omega) ?_)
        intro a3 cap3 w3 hm3 hb3 hz3 hk3
        have hlen3 : (acc ++ [s]).length = acc.length + 1 := by simp
        have HM3 := Lib.hid hm3; clear hm3
        have hbw : Below w0.heap.size w0 w3 := by (repeat (first | with_reducible assumption | with_reducible exact Below.refl _ _ | with_reducible refine Below.drew ?_ | with_reducible refine belowDrewN ?_ _ | ((with_reducible refine Below.setCell ?_ ?_ _); rotate_left; focus (first | omega | (simp; done) | (simp; omega))) | ((with_reducible refine Below.alloc ?_ ?_ _); rotate_left; focus (first | omega | (simp; done) | (simp; omega))) | ((with_reducible refine Below.trans ?_ (Below.mono hb3 ?_)); rotate_left; focus (first | omega | (simp; done) | (simp; omega)))))
        go_wp2_with fail
        go_ret
        exact ⟨a3, cap3, by rw [HA.out]; first | (simp [hlen3]; done) | (simp [hlen3]; rfl), by rw [HA.out]; exact HM3.out, hbw⟩
  · have hA := addT_other hk s acc
    have hkb : (k == 1) = false := by simp [hk]
    rw [hA]
    have HA := Lib.hid hA; clear hA; have HK := Lib.hid hk; clear hk; have HL := Lib.hid hl; clear hl; have HOK := Lib.hid hok; clear hok
    go_wp2_with fail
    go_loopw [1, 32] (fun t i wr => ∃ (j : Nat) (b' : Option Addr) (bc' : Nat), j ≤ ms.length ∧ i = .int .i64 j ∧ t = .slice b' (symL (ds.take j) (acc)).length bc' ∧ (M.sl b' bc' 1 9 (strM (symL (ds.take j) (acc)))).Mine wr w0.heap.size ∧ Below w0.heap.size w0 wr) (fun _ i _ => ms.length - (intOf i).toNat)
    case atStart => exact ⟨0, b, bc, Nat.zero_le _, rfl, by simp [symL_nil], by rw [List.take_zero, symL_nil]; (exact M.Mine.mono (M.Mine.keep HM.out (fun b hb1 hb2 => by (try simp at hb1); simp (disch := (first | omega | (simp; omega))) only [heapSet, heapNew, heapDrew, heapDrewN])) (by first | omega | (simp; done) | (simp; omega))), by (repeat (first | with_reducible assumption | with_reducible exact Below.refl _ _ | with_reducible refine Below.drew ?_ | with_reducible refine belowDrewN ?_ _ | ((with_reducible refine Below.setCell ?_ ?_ _); rotate_left; focus (first | omega | (simp; done) | (simp; omega))) | ((with_reducible refine Below.alloc ?_ ?_ _); rotate_left; focus (first | omega | (simp; done) | (simp; omega)))))⟩
    case round =>
      obtain ⟨j, b', bc', hj, rfl, rfl, hm', hb⟩ := hrel
      have hz := hb.size
      by_cases hlt : j < ms.length
      · obtain ⟨bb, off, k1, n1, s1, ds1, a1, cap1, ms1, rfl, hd, hi1, hin1, c0, c1, c2, c3⟩ := Dat.elem HIN.out HI.out j hlt
        have hbl := World.block_lt_of_cell? w0 _ c0
        simp only at hbl
        have e0 := (hb.cell (p := ⟨bb, _, none⟩) hbl).trans c0
        have e1 := (hb.cell (p := ⟨bb, _, none⟩) hbl).trans c1
        have e2 := (hb.cell (p := ⟨bb, _, none⟩) hbl).trans c2
        have e3 := (hb.cell (p := ⟨bb, _, none⟩) hbl).trans c3
        clear c0 c1 c2 c3
        obtain ⟨ht, hle⟩ := Dat.countL_le ds j _ hd
        have hsl := symL_length (ds.take j) (acc)
        have hst := symL_take hd (acc)
        rw [symD_mk] at hst
        have hmem := List.mem_of_getElem? hd
        simp only [Dat.count] at hle ht
        generalize hcur : symL (ds.take j) (acc) = cur at *
        have HD := Lib.hid hd; clear hd; have HI1 := Lib.hid hi1; clear hi1; have HIN1 := Lib.hid hin1; clear hin1; have HM' := Lib.hid hm'; clear hm'; have HMEM := Lib.hid hmem; clear hmem; have HST := Lib.hid hst; clear hst; have HCUR := Lib.hid hcur; clear hcur
        go_wp2_with fail
        refine (IH.out k1 n1 s1 ds1 HMEM.out k1 n1 s1 a1 cap1 ms1 cur b' bc' w0 _ (by have := HOK.out; exact (Dat.ok_mk.1 this).2 _ HMEM.out) (by omega) HI1.out HIN1.out (by (exact M.Mine.mono (M.Mine.keep HM'.out (fun b hb1 hb2 => by (try simp at hb1); simp (disch := (first | omega | (simp; omega))) only [heapSet, heapNew, heapDrew, heapDrewN])) (by first | omega | (simp; done) | (simp; omega)))) (by (repeat (first | with_reducible assumption | with_reducible exact Below.refl _ _ | with_reducible refine Below.drew ?_ | with_reducible refine belowDrewN ?_ _ | ((with_reducible refine Below.setCell ?_ ?_ _); rotate_left; focus (first | omega | (simp; done) | (simp; omega))) | ((with_reducible refine Below.alloc ?_ ?_ _); rotate_left; focus (first | omega | (simp; done) | (simp; omega))))))).mono ?_
        rintro e w9 ⟨a9, c9, rfl, hm9, hb9⟩
        go_wp2_with fail
        go_roundw
        case rel => exact ⟨j + 1, a9, c9, by omega, by go_num, by rw [HST.out], by rw [HST.out]; exact hm9, by (repeat (first | with_reducible assumption | with_reducible exact Below.refl _ _ | with_reducible refine Below.drew ?_ | with_reducible refine belowDrewN ?_ _ | ((with_reducible refine Below.setCell ?_ ?_ _); rotate_left; focus (first | omega | (simp; done) | (simp; omega))) | ((with_reducible refine Below.alloc ?_ ?_ _); rotate_left; focus (first | omega | (simp; done) | (simp; omega))) | ((with_reducible refine Below.trans ?_ (Below.mono hb9 ?_)); rotate_left; focus (first | omega | (simp; done) | (simp; omega)))))⟩
        case measure => simp [intOf]; omega
      · have hk2 : j = ms.length := by omega
        subst hk2
        have hfin : symL ds (acc) = symL (ds.take ms.length) (acc) := by rw [HL.out, List.take_length]
        have HFIN := Lib.hid hfin; clear hfin; have HM' := Lib.hid hm'; clear hm'
        go_wp2_with fail
        go_ret
        exact ⟨b', bc', by rw [HFIN.out]; rfl, by rw [HFIN.out]; exact HM'.out, by (repeat (first | with_reducible assumption | with_reducible exact Below.refl _ _ | with_reducible refine Below.drew ?_ | with_reducible refine belowDrewN ?_ _ | ((with_reducible refine Below.setCell ?_ ?_ _); rotate_left; focus (first | omega | (simp; done) | (simp; omega))) | ((with_reducible refine Below.alloc ?_ ?_ _); rotate_left; focus (first | omega | (simp; done) | (simp; omega)))))⟩
noncomputable def symsOf (k n : Int) (s : ByteArray) (ds : List Dat) : List ByteArray := if isDatB k n s ds = true then symL ds (addT k s []) else []
theorem symsOf_length (k n : Int) (s : ByteArray) (ds : List Dat) : (symsOf k n s ds).length ≤ 1 + Dat.countL ds := by
  unfold symsOf; split
  · have := symL_length ds (addT k s [])
    have := addT_length k s []
    simp at this; omega
  · simp
theorem isDatB_ok {k n : Int} {s : ByteArray} {ds : List Dat} (h : isDatB k n s ds = true) : (Dat.mk k n s ds).ok := by
  have : IsDatP k n s ds := by simpa [isDatB] using h
  exact this.2.2
theorem sSymbolsOf_calls (k n : Int) (s : ByteArray) (ds : List Dat) (a : Option Addr) (cap : Nat) (ms : List M) (w : World) (hwf : (Dat.mk k n s ds).wf) (hB : Dat.countL ds ≤ 900000000) (hi : Dat.IsL 40 ds ms) (hin : (M.sl a cap 4 40 ms).In w) :
    Calls Try.prog 89 #[.agg #[.int .i64 k, .int .i64 n, .string s, .slice a ms.length cap]] w (RetStrs (symsOf k n s ds) w) := by
  have hcap := hin.len
  have HI := Lib.hid hi; clear hi; have HIN := Lib.hid hin; clear hin; have HWF := Lib.hid hwf; clear hwf
  cases hv : isDatB k n s ds with
  | true =>
    have hs : symsOf k n s ds = symL ds (addT k s []) := by unfold symsOf; rw [if_pos hv]
    rw [hs]
    have HS := Lib.hid hs; clear hs
    go_enter Try.func89, Try.ntmps89
    go_wp2_with fail
    refine (sIsDatum_calls k n s ds a cap ms _ HWF.out (by omega) HI.out (HIN.out.below (by (repeat (first | with_reducible assumption | with_reducible exact Below.refl _ _ | with_reducible refine Below.drew ?_ | with_reducible refine belowDrewN ?_ _ | ((with_reducible refine Below.setCell ?_ ?_ _); rotate_left; focus (first | omega | (simp; done) | (simp; omega))) | ((with_reducible refine Below.alloc ?_ ?_ _); rotate_left; focus (first | omega | (simp; done) | (simp; omega)))))))).mono ?_
    rintro e w1 ⟨rfl, hb1⟩
    obtain ⟨hc1, hf1⟩ := bcell hb1; have hz1 := hb1.size; (try simp only [World.size_alloc, World.size_setCell, World.size_drew, sizeDrewN] at hz1 hc1 hf1)
    have q0 : w1.cell? ⟨w.heap.size, 0, none⟩ = some (.int .i64 k) := by rw [hc1 _ _ (by omega)]; simp [go_sem]
    have q1 : w1.cell? ⟨w.heap.size, 1, none⟩ = some (.int .i64 n) := by rw [hc1 _ _ (by omega)]; simp [go_sem]
    have q2 : w1.cell? ⟨w.heap.size, 2, none⟩ = some (.string s) := by rw [hc1 _ _ (by omega)]; simp [go_sem]
    have q3 : w1.cell? ⟨w.heap.size, 3, none⟩ = some (.slice a ms.length cap) := by rw [hc1 _ _ (by omega)]; simp [go_sem]
    rw [hv]
    have hB' : Dat.countL ds + 1 ≤ 1000000000 := by omega
    have HV := Lib.hid hv; clear hv
    go_wp2_with fail
    refine (l1Symbols_calls ds k n s a cap ms [] (some ⟨w1.heap.size, 0, none⟩) 0 w _ (by simp; omega) HI.out HIN.out (Strs.lit _ _ (by first | omega | (simp; omega))) (by (repeat (first | with_reducible assumption | with_reducible exact Below.refl _ _ | with_reducible refine Below.drew ?_ | with_reducible refine belowDrewN ?_ _ | ((with_reducible refine Below.setCell ?_ ?_ _); rotate_left; focus (first | omega | (simp; done) | (simp; omega))) | ((with_reducible refine Below.alloc ?_ ?_ _); rotate_left; focus (first | omega | (simp; done) | (simp; omega))) | ((with_reducible refine Below.trans ?_ (Below.mono hb1 ?_)); rotate_left; focus (first | omega | (simp; done) | (simp; omega))))))).mono ?_
    rintro e w2 ⟨a2, c2, rfl, hm2, hb2⟩
    have HM2 := Lib.hid hm2; clear hm2
    go_wp2_with fail
    go_ret
    exact ⟨a2, c2, rfl, HM2.out, by (repeat (first | with_reducible assumption | with_reducible exact Below.refl _ _ | with_reducible refine Below.drew ?_ | with_reducible refine belowDrewN ?_ _ | ((with_reducible refine Below.setCell ?_ ?_ _); rotate_left; focus (first | omega | (simp; done) | (simp; omega))) | ((with_reducible refine Below.alloc ?_ ?_ _); rotate_left; focus (first | omega | (simp; done) | (simp; omega))) | ((with_reducible refine Below.trans ?_ (Below.mono hb2 ?_)); rotate_left; focus (first | omega | (simp; done) | (simp; omega)))))⟩
  | false =>
    have hs : symsOf k n s ds = [] := by unfold symsOf; rw [if_neg (by rw [hv]; decide)]
    rw [hs]
    have HS := Lib.hid hs; clear hs
    go_enter Try.func89, Try.ntmps89
    go_wp2_with fail
    refine (sIsDatum_calls k n s ds a cap ms _ HWF.out (by omega) HI.out (HIN.out.below (by (repeat (first | with_reducible assumption | with_reducible exact Below.refl _ _ | with_reducible refine Below.drew ?_ | with_reducible refine belowDrewN ?_ _ | ((with_reducible refine Below.setCell ?_ ?_ _); rotate_left; focus (first | omega | (simp; done) | (simp; omega))) | ((with_reducible refine Below.alloc ?_ ?_ _); rotate_left; focus (first | omega | (simp; done) | (simp; omega)))))))).mono ?_
    rintro e w1 ⟨rfl, hb1⟩
    obtain ⟨hc1, hf1⟩ := bcell hb1; have hz1 := hb1.size; (try simp only [World.size_alloc, World.size_setCell, World.size_drew, sizeDrewN] at hz1 hc1 hf1)
    rw [hv]
    go_wp2_with fail
    go_ret
    exact ⟨none, 0, rfl, Strs.nil _ _, by (repeat (first | with_reducible assumption | with_reducible exact Below.refl _ _ | with_reducible refine Below.drew ?_ | with_reducible refine belowDrewN ?_ _ | ((with_reducible refine Below.setCell ?_ ?_ _); rotate_left; focus (first | omega | (simp; done) | (simp; omega))) | ((with_reducible refine Below.alloc ?_ ?_ _); rotate_left; focus (first | omega | (simp; done) | (simp; omega))) | ((with_reducible refine Below.trans ?_ (Below.mono hb1 ?_)); rotate_left; focus (first | omega | (simp; done) | (simp; omega)))))⟩
theorem iSymbolsOf_calls (k n : Int) (s : ByteArray) (ds : List Dat) (a : Option Addr) (cap : Nat) (ms : List M) (w : World) (hwf : (Dat.mk k n s ds).wf) (hB : Dat.countL ds ≤ 900000000) (hi : Dat.IsL 40 ds ms) (hin : (M.sl a cap 4 40 ms).In w) :
    Calls Try.prog 90 #[.agg #[.int .i64 k, .int .i64 n, .string s, .slice a ms.length cap]] w (RetStrs (symsOf k n s ds) w) := by
  have hcap := hin.len
  have HI := Lib.hid hi; clear hi; have HIN := Lib.hid hin; clear hin; have HWF := Lib.hid hwf; clear hwf
  cases hv : isDatB k n s ds with
  | true =>
    have hs : symsOf k n s ds = symL ds (addT k s []) := by unfold symsOf; rw [if_pos hv]
    rw [hs]
    have HS := Lib.hid hs; clear hs
    go_enter Try.func90, Try.ntmps90
    go_wp2_with fail
    refine (iIsDatum_calls k n s ds a cap ms _ HWF.out (by omega) HI.out (HIN.out.below (by (repeat (first | with_reducible assumption | with_reducible exact Below.refl _ _ | with_reducible refine Below.drew ?_ | with_reducible refine belowDrewN ?_ _ | ((with_reducible refine Below.setCell ?_ ?_ _); rotate_left; focus (first | omega | (simp; done) | (simp; omega))) | ((with_reducible refine Below.alloc ?_ ?_ _); rotate_left; focus (first | omega | (simp; done) | (simp; omega)))))))).mono ?_
    rintro e w1 ⟨rfl, hb1⟩
    obtain ⟨hc1, hf1⟩ := bcell hb1; have hz1 := hb1.size; (try simp only [World.size_alloc, World.size_setCell, World.size_drew, sizeDrewN] at hz1 hc1 hf1)
    have q0 : w1.cell? ⟨w.heap.size, 0, none⟩ = some (.int .i64 k) := by rw [hc1 _ _ (by omega)]; simp [go_sem]
    have q1 : w1.cell? ⟨w.heap.size, 1, none⟩ = some (.int .i64 n) := by rw [hc1 _ _ (by omega)]; simp [go_sem]
    have q2 : w1.cell? ⟨w.heap.size, 2, none⟩ = some (.string s) := by rw [hc1 _ _ (by omega)]; simp [go_sem]
    have q3 : w1.cell? ⟨w.heap.size, 3, none⟩ = some (.slice a ms.length cap) := by rw [hc1 _ _ (by omega)]; simp [go_sem]
    rw [hv]
    have hB' : Dat.countL ds + 1 ≤ 1000000000 := by omega
    have HV := Lib.hid hv; clear hv
    go_wp2_with fail
    refine (collectSymbols_calls ds k n s a cap ms [] none 0 w _ (isDatB_ok HV.out) (by simp; omega) HI.out HIN.out (Strs.nil _ _) (by (repeat (first | with_reducible assumption | with_reducible exact Below.refl _ _ | with_reducible refine Below.drew ?_ | with_reducible refine belowDrewN ?_ _ | ((with_reducible refine Below.setCell ?_ ?_ _); rotate_left; focus (first | omega | (simp; done) | (simp; omega))) | ((with_reducible refine Below.alloc ?_ ?_ _); rotate_left; focus (first | omega | (simp; done) | (simp; omega))) | ((with_reducible refine Below.trans ?_ (Below.mono hb1 ?_)); rotate_left; focus (first | omega | (simp; done) | (simp; omega))))))).mono ?_
    rintro e w2 ⟨a2, c2, rfl, hm2, hb2⟩
    have HM2 := Lib.hid hm2; clear hm2
    go_wp2_with fail
    go_ret
    exact ⟨a2, c2, rfl, HM2.out, by (repeat (first | with_reducible assumption | with_reducible exact Below.refl _ _ | with_reducible refine Below.drew ?_ | with_reducible refine belowDrewN ?_ _ | ((with_reducible refine Below.setCell ?_ ?_ _); rotate_left; focus (first | omega | (simp; done) | (simp; omega))) | ((with_reducible refine Below.alloc ?_ ?_ _); rotate_left; focus (first | omega | (simp; done) | (simp; omega))) | ((with_reducible refine Below.trans ?_ (Below.mono hb2 ?_)); rotate_left; focus (first | omega | (simp; done) | (simp; omega)))))⟩
  | false =>
    have hs : symsOf k n s ds = [] := by unfold symsOf; rw [if_neg (by rw [hv]; decide)]
    rw [hs]
    have HS := Lib.hid hs; clear hs
    go_enter Try.func90, Try.ntmps90
    go_wp2_with fail
    refine (iIsDatum_calls k n s ds a cap ms _ HWF.out (by omega) HI.out (HIN.out.below (by (repeat (first | with_reducible assumption | with_reducible exact Below.refl _ _ | with_reducible refine Below.drew ?_ | with_reducible refine belowDrewN ?_ _ | ((with_reducible refine Below.setCell ?_ ?_ _); rotate_left; focus (first | omega | (simp; done) | (simp; omega))) | ((with_reducible refine Below.alloc ?_ ?_ _); rotate_left; focus (first | omega | (simp; done) | (simp; omega)))))))).mono ?_
    rintro e w1 ⟨rfl, hb1⟩
    obtain ⟨hc1, hf1⟩ := bcell hb1; have hz1 := hb1.size; (try simp only [World.size_alloc, World.size_setCell, World.size_drew, sizeDrewN] at hz1 hc1 hf1)
    rw [hv]
    go_wp2_with fail
    go_ret
    exact ⟨none, 0, rfl, Strs.nil _ _, by (repeat (first | with_reducible assumption | with_reducible exact Below.refl _ _ | with_reducible refine Below.drew ?_ | with_reducible refine belowDrewN ?_ _ | ((with_reducible refine Below.setCell ?_ ?_ _); rotate_left; focus (first | omega | (simp; done) | (simp; omega))) | ((with_reducible refine Below.alloc ?_ ?_ _); rotate_left; focus (first | omega | (simp; done) | (simp; omega))) | ((with_reducible refine Below.trans ?_ (Below.mono hb1 ?_)); rotate_left; focus (first | omega | (simp; done) | (simp; omega)))))⟩
end Go.Proofs.Ytdfekdeojahmmab
