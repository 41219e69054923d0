/-
  Walks: CoreBindings. No condition.
-/
import Derived.Test.YtdfekdeojahmmaaGM
import Derived.Test.YtdfekdeojahmmaaW7
import Derived.Test.YtdfekdeojahmmaaPush
set_option linter.unusedVariables false
set_option linter.unusedSimpArgs false
set_option maxRecDepth 100000
namespace Go.Proofs.Ytdfekdeojahmmaa
open Go.RowKit

def coreB (k : Int) (l : List ByteArray) : List Bnd := l.mapIdx fun i s => .mk s [] k (i : Int)
theorem coreB_length (k : Int) (l : List ByteArray) : (coreB k l).length = l.length := by simp [coreB]
theorem coreB_take {k : Int} {l : List ByteArray} {j : Nat} {s : ByteArray} (h : l[j]? = some s) : coreB k (l.take (j + 1)) = coreB k (l.take j) ++ [.mk s [] k (j : Int)] := by
  have hj := (List.getElem?_eq_some_iff.1 h).1
  rw [take_snoc h, coreB, List.mapIdx_concat, List.length_take, Nat.min_eq_left (by omega)]; rfl
theorem nilM_mine (w : World) (lo : Nat) : (M.sl none 0 4 45 []).Mine w lo := M.Mine.nil _ _ _ _ (by decide)
theorem newM_mine (w : World) (lo : Nat) (e : TypeId) (h : lo ≤ w.heap.size) : (M.sl (some ⟨w.heap.size, 0, none⟩) 0 4 e []).Mine (w.alloc (.cells #[] e)) lo :=
  M.Mine.new rfl h rfl (by decide) (by simp) (by simp [maxLen]) ⟨trivial, by simp [M.blocksL]⟩
def coreAll : List Bnd := coreB 1 formNames ++ coreB 2 primNames
theorem coreAll_places : (Bnd.placesL coreAll : Int) ≤ 1000 := by decide
theorem coreAll_places0 : 0 ≤ (Bnd.placesL coreAll : Int) := by decide
set_option maxHeartbeats 2000000 in
theorem sCoreBindings_calls (w : World) : Calls Try.prog 76 #[] w (RetBnds 45 (coreB 1 formNames ++ coreB 2 primNames) w) := by
  have hF : formNames.length = 12 := rfl
  have hP : primNames.length = 14 := rfl
  go_enter Try.func76, Try.ntmps76
  go_wp2_with fail
  refine (sFormNames_calls _).mono ?_
  rintro e w1 ⟨an, cn, rfl, hmn, hb1⟩
  have hA1 := M.At.of hmn
  clear hmn
  have hm0 : (M.sl (some ⟨w.heap.size, 0, none⟩) 0 4 45 []).Mine w1 w.heap.size := by
    first
      | exact nilM_mine _ _
      | exact (newM_mine w w.heap.size 45 (Nat.le_refl _)).below hb1
  (try simp only [World.size_alloc, World.size_setCell, World.size_drew, sizeDrewN] at hA1)
  obtain ⟨hc1, hf1⟩ := bcell hb1; have hz1 := hb1.size; (try simp only [World.size_alloc, World.size_setCell, World.size_drew, sizeDrewN] at hz1 hc1 hf1)
  have hbb : Below w.heap.size w w1 := by (repeat (first | with_reducible assumption | with_reducible exact Below.refl _ _ | with_reducible refine Below.drew ?_ | with_reducible refine belowDrewN ?_ _ | ((with_reducible refine Below.setCell ?_ ?_ _); rotate_left; focus (first | omega | (simp; done) | (simp; omega))) | ((with_reducible refine Below.alloc ?_ ?_ _); rotate_left; focus (first | omega | (simp; done) | (simp; omega))) | ((with_reducible refine Below.trans ?_ (Below.mono hb1 ?_)); rotate_left; focus (first | omega | (simp; done) | (simp; omega)))))
  have hle1 : w.heap.size+1 ≤ w1.heap.size := by omega
  clear hb1 hc1 hf1
  go_wp2_with fail
  go_loopw [1, 9] (fun t i wr => ∃ (j : Nat) (a' : Option Addr) (cap' : Nat) (ms' : List M), j ≤ formNames.length ∧ i = .int .i64 j ∧ t = .slice a' ms'.length cap' ∧ ms'.length = j ∧ Bnd.IsL (coreB 1 (formNames.take j)) ms' ∧ (M.sl a' cap' 4 45 ms').Mine wr w.heap.size ∧ (∀ b ∈ addrBlocks a', b < w.heap.size+1 ∨ w1.heap.size ≤ b) ∧ (M.sl an cn 1 9 (strM formNames)).At (w.heap.size+1) w1.heap.size wr ∧ Below w.heap.size w wr ∧ w1.heap.size ≤ wr.heap.size) (fun _ i _ => formNames.length - (intOf i).toNat)
  case atStart => exact ⟨0, (some ⟨w.heap.size, 0, none⟩), 0, [], Nat.zero_le _, rfl, rfl, rfl, by simp [coreB, Bnd.IsL], hm0, by simp [addrBlocks], hA1, hbb, Nat.le_refl _⟩
  case round =>
    obtain ⟨j, a', cap', ms', hj, rfl, rfl, hmj, hi', hm', hab, hA, hb, hsz⟩ := hrel
    by_cases hlt : j < formNames.length
    · obtain ⟨b, off, s, rfl, hs, hc⟩ := Strs.elem hA.in_ j hlt
      have hbw := World.block_lt_of_cell? wr _ hc
      have HI' := Lib.hid hi'; clear hi'; have HM' := Lib.hid hm'; clear hm'; have HAB := Lib.hid hab; clear hab; have HS := Lib.hid hs; clear hs
      have HA_ := Lib.hid hA; clear hA
      go_wp2_with (at_builtin; refine wpList_push2 (wr := wr) (w1 := wr) rfl _ _ 36 rfl 45 _ 4 56 Try.underlying36 infoBnd rfl (by decide) w.heap.size a' cap' ms' rfl HM'.out ?lo (Below.refl _ _) _ (bndM s none 0 [] 1 j) rfl rfl wr.heap.size (bndM_mine (M.Mine.nil _ _ _ _ (by decide)) _ _ _) (Nat.le_refl _) rfl ?max ?bytes ?_)
      case lo => exact hb.size
      case max => unfold maxLen; omega
      case bytes => omega
      intro a3 cap3 w3 hm3 hb3 hz3 hfr3 ha3
      have hfin : Bnd.IsL (coreB 1 (formNames.take (j + 1))) (ms' ++ [bndM s none 0 [] 1 j]) := by
        rw [coreB_take HS.out]; exact HI'.out.snoc ⟨_, _, rfl⟩
      have hAt3 := At_keep HA_.out hz3 (fun b h1 h2 => hfr3 b (by have := HA_.out.hi; omega) (fun hn => by have := HAB.out b hn; omega))
      have hab3 : ∀ b ∈ addrBlocks a3, b < w.heap.size+1 ∨ w1.heap.size ≤ b := fun b hb' => by
        rcases ha3 b hb' with h | h
        · exact HAB.out b h
        · exact .inr (by omega)
      have hb' : Below w.heap.size w w3 := hb.trans hb3
      clear ha3
      have HFIN := Lib.hid hfin; clear hfin; have HAT3 := Lib.hid hAt3; clear hAt3; have HAB3 := Lib.hid hab3; clear hab3; have HM3 := Lib.hid hm3; clear hm3; have HFR3 := Lib.hid hfr3; clear hfr3
      go_wp2_with fail
      go_roundw
      case rel => exact ⟨j + 1, a3, cap3, _, by omega, by go_num, by simp [hmj, hF], by simp only [List.length_append, List.length_cons, List.length_nil]; omega, HFIN.out, HM3.out, HAB3.out, HAT3.out, hb', by omega⟩
      case measure => simp [intOf]; omega
    · obtain rfl : j = formNames.length := by omega
      have HMJ := Lib.hid hmj; clear hmj
      go_wp2_with fail
      rw [List.take_length] at hi'
      clear hA hab
      obtain ⟨B2, hB2⟩ : ∃ B2, B2 = wr.heap.size := ⟨_, rfl⟩
      have hab0 : ∀ b ∈ addrBlocks a', b < B2 := fun b hb' => by rw [hB2]; exact (Mine.addr_lo hm' b hb').2
      have hszw := hb.size
      have HI' := Lib.hid hi'; clear hi'; have HAB0 := Lib.hid hab0; clear hab0
      have HM_ := Lib.hid hm'; clear hm'
      refine (sPrimitiveNames_calls _).mono ?_
      rintro e w2 ⟨an2, cn2, rfl, hmn2, hb2⟩
      have hA2 := M.At.of hmn2
      rw [← hB2] at hA2
      clear hmn2
      have hm2 := HM_.out.below hb2
      have hz2 := hb2.size
      have hbb2 : Below w.heap.size w w2 := by (repeat (first | with_reducible assumption | with_reducible exact Below.refl _ _ | with_reducible refine Below.drew ?_ | with_reducible refine belowDrewN ?_ _ | ((with_reducible refine Below.setCell ?_ ?_ _); rotate_left; focus (first | omega | (simp; done) | (simp; omega))) | ((with_reducible refine Below.alloc ?_ ?_ _); rotate_left; focus (first | omega | (simp; done) | (simp; omega))) | ((with_reducible refine Below.trans ?_ (Below.mono hb ?_)); rotate_left; focus (first | omega | (simp; done) | (simp; omega))) | ((with_reducible refine Below.trans ?_ (Below.mono hb2 ?_)); rotate_left; focus (first | omega | (simp; done) | (simp; omega)))))
      have HA2 := Lib.hid hA2; clear hA2; have HM2 := Lib.hid hm2; clear hm2; have HB2 := Lib.hid hb2; clear hb2
      have hB3 : B2 ≤ w2.heap.size := by omega
      clear HM_ hb hm0 hA1 hbb hB2
      go_wp2_with fail
      go_loopw [1, 23] (fun t i wz => ∃ (j : Nat) (a' : Option Addr) (cap' : Nat) (ms' : List M), j ≤ primNames.length ∧ i = .int .i64 j ∧ t = .slice a' ms'.length cap' ∧ ms'.length = formNames.length + j ∧ Bnd.IsL (coreB 1 formNames ++ coreB 2 (primNames.take j)) ms' ∧ (M.sl a' cap' 4 45 ms').Mine wz w.heap.size ∧ (∀ b ∈ addrBlocks a', b < B2 ∨ w2.heap.size ≤ b) ∧ (M.sl an2 cn2 1 9 (strM primNames)).At B2 w2.heap.size wz ∧ Below w.heap.size w wz ∧ w2.heap.size ≤ wz.heap.size) (fun _ i _ => primNames.length - (intOf i).toNat)
      case atStart => exact ⟨0, a', cap', ms', Nat.zero_le _, rfl, rfl, by have := HMJ.out; omega, by simpa [coreB] using HI'.out, HM2.out, fun b hb' => .inl (HAB0.out b hb'), HA2.out, hbb2, Nat.le_refl _⟩
      case round =>
        obtain ⟨j, a', cap', ms', hj, rfl, rfl, hmj, hi', hm', hab, hA, hb, hsz⟩ := hrel
        by_cases hlt : j < primNames.length
        · obtain ⟨b, off, s, rfl, hs, hc⟩ := Strs.elem hA.in_ j hlt
          have hbw := World.block_lt_of_cell? wr _ hc
          have HI' := Lib.hid hi'; clear hi'; have HM' := Lib.hid hm'; clear hm'; have HAB := Lib.hid hab; clear hab; have HS := Lib.hid hs; clear hs
          have HA_ := Lib.hid hA; clear hA
          go_wp2_with (at_builtin; refine wpList_push2 (wr := wr) (w1 := wr) rfl _ _ 36 rfl 45 _ 4 56 Try.underlying36 infoBnd rfl (by decide) w.heap.size a' cap' ms' rfl HM'.out ?lo (Below.refl _ _) _ (bndM s none 0 [] 2 j) rfl rfl wr.heap.size (bndM_mine (M.Mine.nil _ _ _ _ (by decide)) _ _ _) (Nat.le_refl _) rfl ?max ?bytes ?_)
          case lo => exact hb.size
          case max => unfold maxLen; omega
          case bytes => omega
          intro a3 cap3 w3 hm3 hb3 hz3 hfr3 ha3
          have hfin : Bnd.IsL (coreB 1 formNames ++ coreB 2 (primNames.take (j + 1))) (ms' ++ [bndM s none 0 [] 2 j]) := by
            rw [coreB_take HS.out, ← List.append_assoc]; exact HI'.out.snoc ⟨_, _, rfl⟩
          have hAt3 := At_keep HA_.out hz3 (fun b h1 h2 => hfr3 b (by have := HA_.out.hi; omega) (fun hn => by have := HAB.out b hn; omega))
          have hab3 : ∀ b ∈ addrBlocks a3, b < B2 ∨ w2.heap.size ≤ b := fun b hb' => by
            rcases ha3 b hb' with h | h
            · exact HAB.out b h
            · exact .inr (by omega)
          have hb' : Below w.heap.size w w3 := hb.trans hb3
          clear ha3
          have HFIN := Lib.hid hfin; clear hfin; have HAT3 := Lib.hid hAt3; clear hAt3; have HAB3 := Lib.hid hab3; clear hab3; have HM3 := Lib.hid hm3; clear hm3; have HFR3 := Lib.hid hfr3; clear hfr3
          go_wp2_with fail
          go_roundw
          case rel => exact ⟨j + 1, a3, cap3, _, by omega, by go_num, by simp [hmj, hF], by simp only [List.length_append, List.length_cons, List.length_nil]; omega, HFIN.out, HM3.out, HAB3.out, HAT3.out, hb', by omega⟩
          case measure => simp [intOf]; omega
        · obtain rfl : j = primNames.length := by omega
          have HMJ := Lib.hid hmj; clear hmj
          go_wp2_with fail
          go_ret
          rw [List.take_length] at hi'
          exact ⟨_, _, _, rfl, hi', hm', hb⟩
theorem sCoreBindings_all (w : World) : Calls Try.prog 76 #[] w (RetBnds 45 coreAll w) := sCoreBindings_calls w
set_option maxHeartbeats 2000000 in
theorem iCoreBindings_calls (w : World) : Calls Try.prog 77 #[] w (RetBnds 45 (coreB 1 formNames ++ coreB 2 primNames) w) := by
  have hF : formNames.length = 12 := rfl
  have hP : primNames.length = 14 := rfl
  go_enter Try.func77, Try.ntmps77
  go_wp2_with fail
  refine (iFormNames_calls _).mono ?_
  rintro e w1 ⟨an, cn, rfl, hmn, hb1⟩
  have hA1 := M.At.of hmn
  clear hmn
  have hm0 : (M.sl none 0 4 45 []).Mine w1 w.heap.size := by
    first
      | exact nilM_mine _ _
      | exact (newM_mine w w.heap.size 45 (Nat.le_refl _)).below hb1
  (try simp only [World.size_alloc, World.size_setCell, World.size_drew, sizeDrewN] at hA1)
  obtain ⟨hc1, hf1⟩ := bcell hb1; have hz1 := hb1.size; (try simp only [World.size_alloc, World.size_setCell, World.size_drew, sizeDrewN] at hz1 hc1 hf1)
  have hbb : Below w.heap.size w w1 := by (repeat (first | with_reducible assumption | with_reducible exact Below.refl _ _ | with_reducible refine Below.drew ?_ | with_reducible refine belowDrewN ?_ _ | ((with_reducible refine Below.setCell ?_ ?_ _); rotate_left; focus (first | omega | (simp; done) | (simp; omega))) | ((with_reducible refine Below.alloc ?_ ?_ _); rotate_left; focus (first | omega | (simp; done) | (simp; omega))) | ((with_reducible refine Below.trans ?_ (Below.mono hb1 ?_)); rotate_left; focus (first | omega | (simp; done) | (simp; omega)))))
  have hle1 : w.heap.size ≤ w1.heap.size := by omega
  clear hb1 hc1 hf1
  go_wp2_with fail
  go_loopw [1, 8] (fun t i wr => ∃ (j : Nat) (a' : Option Addr) (cap' : Nat) (ms' : List M), j ≤ formNames.length ∧ i = .int .i64 j ∧ t = .slice a' ms'.length cap' ∧ ms'.length = j ∧ Bnd.IsL (coreB 1 (formNames.take j)) ms' ∧ (M.sl a' cap' 4 45 ms').Mine wr w.heap.size ∧ (∀ b ∈ addrBlocks a', b < w.heap.size ∨ w1.heap.size ≤ b) ∧ (M.sl an cn 1 9 (strM formNames)).At (w.heap.size) w1.heap.size wr ∧ Below w.heap.size w wr ∧ w1.heap.size ≤ wr.heap.size) (fun _ i _ => formNames.length - (intOf i).toNat)
  case atStart => exact ⟨0, none, 0, [], Nat.zero_le _, rfl, rfl, rfl, by simp [coreB, Bnd.IsL], hm0, by simp [addrBlocks], hA1, hbb, Nat.le_refl _⟩
  case round =>
    obtain ⟨j, a', cap', ms', hj, rfl, rfl, hmj, hi', hm', hab, hA, hb, hsz⟩ := hrel
    by_cases hlt : j < formNames.length
    · obtain ⟨b, off, s, rfl, hs, hc⟩ := Strs.elem hA.in_ j hlt
      have hbw := World.block_lt_of_cell? wr _ hc
      have HI' := Lib.hid hi'; clear hi'; have HM' := Lib.hid hm'; clear hm'; have HAB := Lib.hid hab; clear hab; have HS := Lib.hid hs; clear hs
      have HA_ := Lib.hid hA; clear hA
      go_wp2_with (at_builtin; refine wpList_push2 (wr := wr) (w1 := wr) rfl _ _ 36 rfl 45 _ 4 56 Try.underlying36 infoBnd rfl (by decide) w.heap.size a' cap' ms' rfl HM'.out ?lo (Below.refl _ _) _ (bndM s none 0 [] 1 j) rfl rfl wr.heap.size (bndM_mine (M.Mine.nil _ _ _ _ (by decide)) _ _ _) (Nat.le_refl _) rfl ?max ?bytes ?_)
      case lo => exact hb.size
      case max => unfold maxLen; omega
      case bytes => omega
      intro a3 cap3 w3 hm3 hb3 hz3 hfr3 ha3
      have hfin : Bnd.IsL (coreB 1 (formNames.take (j + 1))) (ms' ++ [bndM s none 0 [] 1 j]) := by
        rw [coreB_take HS.out]; exact HI'.out.snoc ⟨_, _, rfl⟩
      have hAt3 := At_keep HA_.out hz3 (fun b h1 h2 => hfr3 b (by have := HA_.out.hi; omega) (fun hn => by have := HAB.out b hn; omega))
      have hab3 : ∀ b ∈ addrBlocks a3, b < w.heap.size ∨ w1.heap.size ≤ b := fun b hb' => by
        rcases ha3 b hb' with h | h
        · exact HAB.out b h
        · exact .inr (by omega)
      have hb' : Below w.heap.size w w3 := hb.trans hb3
      clear ha3
      have HFIN := Lib.hid hfin; clear hfin; have HAT3 := Lib.hid hAt3; clear hAt3; have HAB3 := Lib.hid hab3; clear hab3; have HM3 := Lib.hid hm3; clear hm3; have HFR3 := Lib.hid hfr3; clear hfr3
      go_wp2_with fail
      go_roundw
      case rel => exact ⟨j + 1, a3, cap3, _, by omega, by go_num, by simp [hmj, hF], by simp only [List.length_append, List.length_cons, List.length_nil]; omega, HFIN.out, HM3.out, HAB3.out, HAT3.out, hb', by omega⟩
      case measure => simp [intOf]; omega
    · obtain rfl : j = formNames.length := by omega
      have HMJ := Lib.hid hmj; clear hmj
      go_wp2_with fail
      rw [List.take_length] at hi'
      clear hA hab
      obtain ⟨B2, hB2⟩ : ∃ B2, B2 = wr.heap.size := ⟨_, rfl⟩
      have hab0 : ∀ b ∈ addrBlocks a', b < B2 := fun b hb' => by rw [hB2]; exact (Mine.addr_lo hm' b hb').2
      have hszw := hb.size
      have HI' := Lib.hid hi'; clear hi'; have HAB0 := Lib.hid hab0; clear hab0
      have HM_ := Lib.hid hm'; clear hm'
      refine (iPrimitiveNames_calls _).mono ?_
      rintro e w2 ⟨an2, cn2, rfl, hmn2, hb2⟩
      have hA2 := M.At.of hmn2
      rw [← hB2] at hA2
      clear hmn2
      have hm2 := HM_.out.below hb2
      have hz2 := hb2.size
      have hbb2 : Below w.heap.size w w2 := by (repeat (first | with_reducible assumption | with_reducible exact Below.refl _ _ | with_reducible refine Below.drew ?_ | with_reducible refine belowDrewN ?_ _ | ((with_reducible refine Below.setCell ?_ ?_ _); rotate_left; focus (first | omega | (simp; done) | (simp; omega))) | ((with_reducible refine Below.alloc ?_ ?_ _); rotate_left; focus (first | omega | (simp; done) | (simp; omega))) | ((with_reducible refine Below.trans ?_ (Below.mono hb ?_)); rotate_left; focus (first | omega | (simp; done) | (simp; omega))) | ((with_reducible refine Below.trans ?_ (Below.mono hb2 ?_)); rotate_left; focus (first | omega | (simp; done) | (simp; omega)))))
      have HA2 := Lib.hid hA2; clear hA2; have HM2 := Lib.hid hm2; clear hm2; have HB2 := Lib.hid hb2; clear hb2
      have hB3 : B2 ≤ w2.heap.size := by omega
      clear HM_ hb hm0 hA1 hbb hB2
      go_wp2_with fail
      go_loopw [1, 22] (fun t i wz => ∃ (j : Nat) (a' : Option Addr) (cap' : Nat) (ms' : List M), j ≤ primNames.length ∧ i = .int .i64 j ∧ t = .slice a' ms'.length cap' ∧ ms'.length = formNames.length + j ∧ Bnd.IsL (coreB 1 formNames ++ coreB 2 (primNames.take j)) ms' ∧ (M.sl a' cap' 4 45 ms').Mine wz w.heap.size ∧ (∀ b ∈ addrBlocks a', b < B2 ∨ w2.heap.size ≤ b) ∧ (M.sl an2 cn2 1 9 (strM primNames)).At B2 w2.heap.size wz ∧ Below w.heap.size w wz ∧ w2.heap.size ≤ wz.heap.size) (fun _ i _ => primNames.length - (intOf i).toNat)
      case atStart => exact ⟨0, a', cap', ms', Nat.zero_le _, rfl, rfl, by have := HMJ.out; omega, by simpa [coreB] using HI'.out, HM2.out, fun b hb' => .inl (HAB0.out b hb'), HA2.out, hbb2, Nat.le_refl _⟩
      case round =>
        obtain ⟨j, a', cap', ms', hj, rfl, rfl, hmj, hi', hm', hab, hA, hb, hsz⟩ := hrel
        by_cases hlt : j < primNames.length
        · obtain ⟨b, off, s, rfl, hs, hc⟩ := Strs.elem hA.in_ j hlt
          have hbw := World.block_lt_of_cell? wr _ hc
          have HI' := Lib.hid hi'; clear hi'; have HM' := Lib.hid hm'; clear hm'; have HAB := Lib.hid hab; clear hab; have HS := Lib.hid hs; clear hs
          have HA_ := Lib.hid hA; clear hA
          go_wp2_with (at_builtin; refine wpList_push2 (wr := wr) (w1 := wr) rfl _ _ 36 rfl 45 _ 4 56 Try.underlying36 infoBnd rfl (by decide) w.heap.size a' cap' ms' rfl HM'.out ?lo (Below.refl _ _) _ (bndM s none 0 [] 2 j) rfl rfl wr.heap.size (bndM_mine (M.Mine.nil _ _ _ _ (by decide)) _ _ _) (Nat.le_refl _) rfl ?max ?bytes ?_)
          case lo => exact hb.size
          case max => unfold maxLen; omega
          case bytes => omega
          intro a3 cap3 w3 hm3 hb3 hz3 hfr3 ha3
          have hfin : Bnd.IsL (coreB 1 formNames ++ coreB 2 (primNames.take (j + 1))) (ms' ++ [bndM s none 0 [] 2 j]) := by
            rw [coreB_take HS.out, ← List.append_assoc]; exact HI'.out.snoc ⟨_, _, rfl⟩
          have hAt3 := At_keep HA_.out hz3 (fun b h1 h2 => hfr3 b (by have := HA_.out.hi; omega) (fun hn => by have := HAB.out b hn; omega))
          have hab3 : ∀ b ∈ addrBlocks a3, b < B2 ∨ w2.heap.size ≤ b := fun b hb' => by
            rcases ha3 b hb' with h | h
            · exact HAB.out b h
            · exact .inr (by omega)
          have hb' : Below w.heap.size w w3 := hb.trans hb3
          clear ha3
          have HFIN := Lib.hid hfin; clear hfin; have HAT3 := Lib.hid hAt3; clear hAt3; have HAB3 := Lib.hid hab3; clear hab3; have HM3 := Lib.hid hm3; clear hm3; have HFR3 := Lib.hid hfr3; clear hfr3
          go_wp2_with fail
          go_roundw
          case rel => exact ⟨j + 1, a3, cap3, _, by omega, by go_num, by simp [hmj, hF], by simp only [List.length_append, List.length_cons, List.length_nil]; omega, HFIN.out, HM3.out, HAB3.out, HAT3.out, hb', by omega⟩
          case measure => simp [intOf]; omega
        · obtain rfl : j = primNames.length := by omega
          have HMJ := Lib.hid hmj; clear hmj
          go_wp2_with fail
          go_ret
          rw [List.take_length] at hi'
          exact ⟨_, _, _, rfl, hi', hm', hb⟩
theorem iCoreBindings_all (w : World) : Calls Try.prog 77 #[] w (RetBnds 45 coreAll w) := iCoreBindings_calls w
end Go.Proofs.Ytdfekdeojahmmaa
