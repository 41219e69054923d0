/-
  Texts set together by wip/tools/merge.py: PN2, Shelf2, PN3, Q2, I1, I2, I3, I4, Q3, Q5, N7, D2, D3, D4, Set, DM1, Mk, DM2, B1, Q6, PD5, Step, Step3. No condition beyond those told with each.
-/
import Derived.Test.YtigmgfinjapchaaDoorGb
import Derived.Shelf.Strconv.Atoi
import Derived.Shelf.LaysM
import Derived.Shelf.Strconv.AtoiErrFast
import Derived.Shelf.Strconv.ParseIntEmpty
import Derived.Shelf.LaysC
import Derived.Shelf.Strconv.ErrVar
import Derived.Test.YtigmgfinjapchaaDoorProg
import Derived.Lib.AtoiBound
import Derived.Deep.RegionLaw
/-
  Walks: the number that a text is, the reference's side. No condition. (printed by wip/tools/mkpn2.py)
-/
set_option linter.unusedVariables false
set_option linter.unusedSimpArgs false
set_option maxRecDepth 100000
namespace Go.Proofs.YtigmgfinjapchaaDoor
open Go.RowKit

theorem decFrom_none_app : ∀ (l r : List UInt8) (acc : Nat), Lib.decFrom acc l = none → Lib.decFrom acc (l ++ r) = none
  | [], r, acc, h => by simp [Lib.decFrom] at h
  | b :: l, r, acc, h => by
    simp only [List.cons_append, Lib.decFrom] at h ⊢
    cases hd : Lib.digitVal b with
    | none => rfl
    | some d => simp only [hd] at h ⊢; exact decFrom_none_app l r _ h
theorem decFrom_none_of {l : List UInt8} {k acc : Nat} (h : Lib.decFrom acc (l.take k) = none) : Lib.decFrom acc l = none := by
  rw [← List.take_append_drop k l]; exact decFrom_none_app _ _ _ h
/-- what ParseNumber hands back -/
def numV : Option Int → Value
  | some n => .tuple #[.int .i64 n, .bool true]
  | none => .tuple #[.int .i64 0, .bool false]
set_option maxHeartbeats 2000000 in
theorem sParseNumber_calls (s : ByteArray) (w : World) (hs : s.size ≤ 9223372036854775807) :
    Calls Tryd.prog 86 #[.string s] w (Ret (numV (numOf s.data.toList)) w) := by
  by_cases h0 : s.size = 0
  · have hno := num_none_size (s := s.data.toList) (.inl h0)
    have hz2 : ((0 : Int) == (s.size : Int)) = true := by simp [h0]
    have hp : ¬ (0 < s.size) := by omega
    have hp2 : ¬ ((0 : Int) < (s.size : Int)) := by omega
    have HNO := Lib.hid hno; clear hno
    go_enter Tryd.func86, Tryd.ntmps86
    go_wp2_with fail
    go_ret2
    exact ⟨by rw [HNO.out]; rfl, by (repeat (first | with_reducible assumption | with_reducible exact Below.refl _ _ | with_reducible refine Below.drew ?_ | with_reducible refine belowDrewN ?_ _ | ((with_reducible refine Below.setCell ?_ ?_ _); rotate_left; focus (first | omega | (simp; done) | (simp; omega))) | ((with_reducible refine Below.alloc ?_ ?_ _); rotate_left; focus (first | omega | (simp; done) | (simp; omega)))))⟩
  have hp : 0 < s.size := by omega
  have hh : s.data.toList.head? = some (s[0]'hp) := by
    rw [List.head?_eq_getElem?]
    have h' : 0 < s.data.toList.length := by simpa using hp
    rw [List.getElem?_eq_getElem h']; rfl
  by_cases h45 : (s[0]'hp).toNat = 45
  · have hat : atOf s.data.toList = 1 := by
      unfold atOf; rw [hh, if_pos]; congr 1; exact UInt8.toNat_inj.1 h45
    have h45i : (((s[0]'hp).toNat : Int) == 45) = true := by simp [h45]
    clear hh
    go_enter Tryd.func86, Tryd.ntmps86
    have hdl : (s.data.toList.drop 1).length = s.size - 1 := by rw [List.length_drop]; rfl
    by_cases hlen0 : s.size = 1
    · have hno := num_none_len (s := s.data.toList) (by rw [hat]; left; omega)
      have hz : ((s.size : Int) == 1) = true := by simp [hlen0]
      have hz2 : ((1 : Int) == (s.size : Int)) = true := by simp [hlen0]
      have HNO := Lib.hid hno; clear hno; have HAT := Lib.hid hat; clear hat; have HDL := Lib.hid hdl; clear hdl
      go_wp2_with fail
      go_ret2
      exact ⟨by rw [HNO.out]; rfl, by (repeat (first | with_reducible assumption | with_reducible exact Below.refl _ _ | with_reducible refine Below.drew ?_ | with_reducible refine belowDrewN ?_ _ | ((with_reducible refine Below.setCell ?_ ?_ _); rotate_left; focus (first | omega | (simp; done) | (simp; omega))) | ((with_reducible refine Below.alloc ?_ ?_ _); rotate_left; focus (first | omega | (simp; done) | (simp; omega)))))⟩
    by_cases hlen9 : 9 < s.size - 1
    · have hno := num_none_len (s := s.data.toList) (by rw [hat]; right; omega)
      have hz2 : ((1 : Int) == (s.size : Int)) = false := beq_eq_false_iff_ne.2 (by omega)
      have hz9 : 9 < (s.size : Int) - 1 := by omega
      have HNO := Lib.hid hno; clear hno; have HAT := Lib.hid hat; clear hat; have HDL := Lib.hid hdl; clear hdl
      go_wp2_with fail
      go_ret2
      exact ⟨by rw [HNO.out]; rfl, by (repeat (first | with_reducible assumption | with_reducible exact Below.refl _ _ | with_reducible refine Below.drew ?_ | with_reducible refine belowDrewN ?_ _ | ((with_reducible refine Below.setCell ?_ ?_ _); rotate_left; focus (first | omega | (simp; done) | (simp; omega))) | ((with_reducible refine Below.alloc ?_ ?_ _); rotate_left; focus (first | omega | (simp; done) | (simp; omega)))))⟩
    have hz2 : ((1 : Int) == (s.size : Int)) = false := beq_eq_false_iff_ne.2 (by omega)
    have hz9 : ¬ 9 < (s.size : Int) - 1 := by omega
    have HAT := Lib.hid hat; clear hat; have HDL := Lib.hid hdl; clear hdl
    go_wp2_with fail
    go_loopw [5, 6] (fun u i wr => ∃ (k m : Nat), 1 ≤ k ∧ k ≤ s.size ∧ i = .int .i64 k ∧ u = .int .i64 m ∧ Lib.decFrom 0 ((s.data.toList.drop 1).take (k - 1)) = some m ∧ wr = w) (fun _ i _ => s.size - (intOf i).toNat)
    case atStart => exact ⟨1, 0, Nat.le_refl _, by omega, rfl, rfl, by simp [Lib.decFrom], rfl⟩
    case round =>
      obtain ⟨k, m, hk0, hk, rfl, rfl, hdf, rfl⟩ := hrel
      by_cases hlt : k < s.size
      · have hget : (s.data.toList.drop 1)[k - 1]? = some (s[k]'hlt) := by
          rw [List.getElem?_drop, show 1 + (k - 1) = k by omega]
          have h' : k < s.data.toList.length := by simpa using hlt
          rw [List.getElem?_eq_getElem h']; rfl
        have hsn := decFrom_snoc ((s.data.toList.drop 1).take (k - 1)) 0 (s[k]'hlt)
        rw [← take_snoc hget, hdf, show k - 1 + 1 = k + 1 - 1 by omega] at hsn
        have hmb := decFrom_lt _ _ _ hdf
        have htl : ((s.data.toList.drop 1).take (k - 1)).length ≤ 9 := by rw [List.length_take, HDL.out]; omega
        have hm9 : m < 1000000000 := by
          have hp := Nat.pow_le_pow_right (show 0 < 10 by decide) htl
          have e : (10 : Nat) ^ 9 = 1000000000 := by decide
          rw [e] at hp; omega
        by_cases hdg : 48 ≤ (s[k]'hlt).toNat ∧ (s[k]'hlt).toNat ≤ 57
        · have hyes : digB ((s[k]'hlt).toNat : Int) = true := by unfold digB; simp; omega
          have hdv := digitVal_yes hdg.1 hdg.2
          rw [hdv] at hsn
          simp only [Option.bind_some, Option.map_some] at hsn
          generalize hbt : ((s[k]'hlt).toNat) = bt at *
          have hw1 : ((bt : Int) - 48) % 256 = ((bt - 48 : Nat) : Int) := by omega
          have HSN := Lib.hid hsn; clear hsn; have HDF := Lib.hid hdf; clear hdf; have HGET := Lib.hid hget; clear hget; have HDV := Lib.hid hdv; clear hdv; have HMB := Lib.hid hmb; clear hmb; have HTL := Lib.hid htl; clear htl
          go_wp2_with (go_at_call 77; refine (l1Digit_calls _ _).mono ?_; rintro e w1 ⟨rfl, rfl⟩)
          go_roundw
          case rel => exact ⟨k + 1, m * 10 + (bt - 48), by omega, by omega, by go_num, by first | (congr 1; omega) | (congr 1; unfold wrap64; omega), HSN.out, by first | rfl | trivial⟩
          case measure => simp [intOf]; omega
        · have hno2 : digB ((s[k]'hlt).toNat : Int) = false := by
            unfold digB
            by_cases h1 : 48 ≤ (s[k]'hlt).toNat
            · have : ¬ (s[k]'hlt).toNat ≤ 57 := fun h => hdg ⟨h1, h⟩
              simp; omega
            · simp; omega
          have hdv := digitVal_no hdg
          rw [hdv] at hsn
          simp only [Option.bind_some, Option.map_none] at hsn
          have hall : Lib.decFrom 0 (s.data.toList.drop 1) = none := decFrom_none_of hsn
          have hno := num_none_digit (s := s.data.toList) (by rw [HAT.out]; exact hall)
          have HSN := Lib.hid hsn; clear hsn; have HDF := Lib.hid hdf; clear hdf; have HGET := Lib.hid hget; clear hget; have HDV := Lib.hid hdv; clear hdv; have HMB := Lib.hid hmb; clear hmb; have HTL := Lib.hid htl; clear htl; have HALL := Lib.hid hall; clear hall; have HNO := Lib.hid hno; clear hno; have HDG := Lib.hid hdg; clear hdg
          go_wp2_with (go_at_call 77; refine (l1Digit_calls _ _).mono ?_; rintro e w1 ⟨rfl, rfl⟩)
          go_ret2
          exact ⟨by rw [HNO.out]; rfl, by (repeat (first | with_reducible assumption | with_reducible exact Below.refl _ _ | with_reducible refine Below.drew ?_ | with_reducible refine belowDrewN ?_ _ | ((with_reducible refine Below.setCell ?_ ?_ _); rotate_left; focus (first | omega | (simp; done) | (simp; omega))) | ((with_reducible refine Below.alloc ?_ ?_ _); rotate_left; focus (first | omega | (simp; done) | (simp; omega)))))⟩
      · have hk2 : k = s.size := by omega
        subst hk2
        have htk : (s.data.toList.drop 1).take (s.size - 1) = s.data.toList.drop 1 := List.take_of_length_le (by rw [HDL.out]; omega)
        rw [htk] at hdf
        have hmb := decFrom_lt _ _ _ hdf
        have hm9 : m < 1000000000 := by
          have hp := Nat.pow_le_pow_right (show 0 < 10 by decide) (show (s.data.toList.drop 1).length ≤ 9 by rw [HDL.out]; omega)
          have e : (10 : Nat) ^ 9 = 1000000000 := by decide
          rw [e] at hp; omega
        have hend := num_end (s := s.data.toList) (m := m) (by rw [HAT.out]; exact hdf) (by rw [HAT.out, HDL.out]; omega) (-(m : Int)) (by rw [HAT.out]; rfl)
        have hI : I64 (-(m : Int)) := by unfold I64; omega
        have hneg : wrap64 (-(m : Int)) = -(m : Int) := by unfold wrap64; omega
        have HDF := Lib.hid hdf; clear hdf; have HTK := Lib.hid htk; clear htk; have HMB := Lib.hid hmb; clear hmb
        by_cases he : Lib.itoa (-(m : Int)) = s.data.toList
        · rw [if_pos he] at hend
          have hba := baOf he.symm
          have HEND := Lib.hid hend; clear hend; have HE := Lib.hid he; clear he; have HBA := Lib.hid hba; clear hba
          go_wp2_with fail
          refine (sFormatNumber_calls _ _ hI).mono ?_
          rintro e w1 ⟨rfl, hb1⟩
          rw [← HBA.out]
          go_wp2_with fail
          go_ret2
          exact ⟨by rw [HEND.out]; rfl, by (repeat (first | with_reducible assumption | with_reducible exact Below.refl _ _ | with_reducible refine Below.drew ?_ | with_reducible refine belowDrewN ?_ _ | ((with_reducible refine Below.setCell ?_ ?_ _); rotate_left; focus (first | omega | (simp; done) | (simp; omega))) | ((with_reducible refine Below.alloc ?_ ?_ _); rotate_left; focus (first | omega | (simp; done) | (simp; omega))) | ((with_reducible refine Below.trans ?_ (Below.mono hb1 ?_)); rotate_left; focus (first | omega | (simp; done) | (simp; omega)))))⟩
        · rw [if_neg he] at hend
          obtain ⟨B, hBB⟩ : ∃ B : ByteArray, B = ⟨(Lib.itoa (-(m : Int))).toArray⟩ := ⟨_, rfl⟩
          have hbn : ¬ B = s := fun h => he (by rw [← h, hBB])
          have hbb := ba_ne hbn
          have HEND := Lib.hid hend; clear hend; have HE := Lib.hid he; clear he; have HBN := Lib.hid hbn; clear hbn; have HBB_ := Lib.hid hBB; clear hBB
          go_wp2_with fail
          refine (sFormatNumber_calls _ _ hI).mono ?_
          rintro e w1 ⟨rfl, hb1⟩
          rw [← HBB_.out]
          go_wp2_with fail
          go_ret2
          exact ⟨by rw [HEND.out]; rfl, by (repeat (first | with_reducible assumption | with_reducible exact Below.refl _ _ | with_reducible refine Below.drew ?_ | with_reducible refine belowDrewN ?_ _ | ((with_reducible refine Below.setCell ?_ ?_ _); rotate_left; focus (first | omega | (simp; done) | (simp; omega))) | ((with_reducible refine Below.alloc ?_ ?_ _); rotate_left; focus (first | omega | (simp; done) | (simp; omega))) | ((with_reducible refine Below.trans ?_ (Below.mono hb1 ?_)); rotate_left; focus (first | omega | (simp; done) | (simp; omega)))))⟩
  · have hat : atOf s.data.toList = 0 := by
      unfold atOf; rw [hh, if_neg]; intro h; apply h45; rw [Option.some.inj h]; rfl
    have h45i : (((s[0]'hp).toNat : Int) == 45) = false := beq_eq_false_iff_ne.2 (by omega)
    clear hh
    go_enter Tryd.func86, Tryd.ntmps86
    have hdl : (s.data.toList.drop 0).length = s.size - 0 := by rw [List.length_drop]; rfl
    by_cases hlen0 : s.size = 0
    · have hno := num_none_len (s := s.data.toList) (by rw [hat]; left; omega)
      have hz : ((s.size : Int) == 0) = true := by simp [hlen0]
      have hz2 : ((0 : Int) == (s.size : Int)) = true := by simp [hlen0]
      have HNO := Lib.hid hno; clear hno; have HAT := Lib.hid hat; clear hat; have HDL := Lib.hid hdl; clear hdl
      go_wp2_with fail
      go_ret2
      exact ⟨by rw [HNO.out]; rfl, by (repeat (first | with_reducible assumption | with_reducible exact Below.refl _ _ | with_reducible refine Below.drew ?_ | with_reducible refine belowDrewN ?_ _ | ((with_reducible refine Below.setCell ?_ ?_ _); rotate_left; focus (first | omega | (simp; done) | (simp; omega))) | ((with_reducible refine Below.alloc ?_ ?_ _); rotate_left; focus (first | omega | (simp; done) | (simp; omega)))))⟩
    by_cases hlen9 : 9 < s.size - 0
    · have hno := num_none_len (s := s.data.toList) (by rw [hat]; right; omega)
      have hz2 : ((0 : Int) == (s.size : Int)) = false := beq_eq_false_iff_ne.2 (by omega)
      have hz9 : 9 < (s.size : Int) - 0 := by omega
      have HNO := Lib.hid hno; clear hno; have HAT := Lib.hid hat; clear hat; have HDL := Lib.hid hdl; clear hdl
      go_wp2_with fail
      go_ret2
      exact ⟨by rw [HNO.out]; rfl, by (repeat (first | with_reducible assumption | with_reducible exact Below.refl _ _ | with_reducible refine Below.drew ?_ | with_reducible refine belowDrewN ?_ _ | ((with_reducible refine Below.setCell ?_ ?_ _); rotate_left; focus (first | omega | (simp; done) | (simp; omega))) | ((with_reducible refine Below.alloc ?_ ?_ _); rotate_left; focus (first | omega | (simp; done) | (simp; omega)))))⟩
    have hz2 : ((0 : Int) == (s.size : Int)) = false := beq_eq_false_iff_ne.2 (by omega)
    have hz9 : ¬ 9 < (s.size : Int) - 0 := by omega
    have HAT := Lib.hid hat; clear hat; have HDL := Lib.hid hdl; clear hdl
    go_wp2_with fail
    go_loopw [5, 6] (fun u i wr => ∃ (k m : Nat), 0 ≤ k ∧ k ≤ s.size ∧ i = .int .i64 k ∧ u = .int .i64 m ∧ Lib.decFrom 0 ((s.data.toList.drop 0).take (k - 0)) = some m ∧ wr = w) (fun _ i _ => s.size - (intOf i).toNat)
    case atStart => exact ⟨0, 0, Nat.le_refl _, by omega, rfl, rfl, by simp [Lib.decFrom], rfl⟩
    case round =>
      obtain ⟨k, m, hk0, hk, rfl, rfl, hdf, rfl⟩ := hrel
      by_cases hlt : k < s.size
      · have hget : (s.data.toList.drop 0)[k - 0]? = some (s[k]'hlt) := by
          rw [List.getElem?_drop, show 0 + (k - 0) = k by omega]
          have h' : k < s.data.toList.length := by simpa using hlt
          rw [List.getElem?_eq_getElem h']; rfl
        have hsn := decFrom_snoc ((s.data.toList.drop 0).take (k - 0)) 0 (s[k]'hlt)
        rw [← take_snoc hget, hdf, show k - 0 + 1 = k + 1 - 0 by omega] at hsn
        have hmb := decFrom_lt _ _ _ hdf
        have htl : ((s.data.toList.drop 0).take (k - 0)).length ≤ 9 := by rw [List.length_take, HDL.out]; omega
        have hm9 : m < 1000000000 := by
          have hp := Nat.pow_le_pow_right (show 0 < 10 by decide) htl
          have e : (10 : Nat) ^ 9 = 1000000000 := by decide
          rw [e] at hp; omega
        by_cases hdg : 48 ≤ (s[k]'hlt).toNat ∧ (s[k]'hlt).toNat ≤ 57
        · have hyes : digB ((s[k]'hlt).toNat : Int) = true := by unfold digB; simp; omega
          have hdv := digitVal_yes hdg.1 hdg.2
          rw [hdv] at hsn
          simp only [Option.bind_some, Option.map_some] at hsn
          generalize hbt : ((s[k]'hlt).toNat) = bt at *
          have hw1 : ((bt : Int) - 48) % 256 = ((bt - 48 : Nat) : Int) := by omega
          have HSN := Lib.hid hsn; clear hsn; have HDF := Lib.hid hdf; clear hdf; have HGET := Lib.hid hget; clear hget; have HDV := Lib.hid hdv; clear hdv; have HMB := Lib.hid hmb; clear hmb; have HTL := Lib.hid htl; clear htl
          go_wp2_with (go_at_call 77; refine (l1Digit_calls _ _).mono ?_; rintro e w1 ⟨rfl, rfl⟩)
          go_roundw
          case rel => exact ⟨k + 1, m * 10 + (bt - 48), by omega, by omega, by go_num, by first | (congr 1; omega) | (congr 1; unfold wrap64; omega), HSN.out, by first | rfl | trivial⟩
          case measure => simp [intOf]; omega
        · have hno2 : digB ((s[k]'hlt).toNat : Int) = false := by
            unfold digB
            by_cases h1 : 48 ≤ (s[k]'hlt).toNat
            · have : ¬ (s[k]'hlt).toNat ≤ 57 := fun h => hdg ⟨h1, h⟩
              simp; omega
            · simp; omega
          have hdv := digitVal_no hdg
          rw [hdv] at hsn
          simp only [Option.bind_some, Option.map_none] at hsn
          have hall : Lib.decFrom 0 (s.data.toList.drop 0) = none := decFrom_none_of hsn
          have hno := num_none_digit (s := s.data.toList) (by rw [HAT.out]; exact hall)
          have HSN := Lib.hid hsn; clear hsn; have HDF := Lib.hid hdf; clear hdf; have HGET := Lib.hid hget; clear hget; have HDV := Lib.hid hdv; clear hdv; have HMB := Lib.hid hmb; clear hmb; have HTL := Lib.hid htl; clear htl; have HALL := Lib.hid hall; clear hall; have HNO := Lib.hid hno; clear hno; have HDG := Lib.hid hdg; clear hdg
          go_wp2_with (go_at_call 77; refine (l1Digit_calls _ _).mono ?_; rintro e w1 ⟨rfl, rfl⟩)
          go_ret2
          exact ⟨by rw [HNO.out]; rfl, by (repeat (first | with_reducible assumption | with_reducible exact Below.refl _ _ | with_reducible refine Below.drew ?_ | with_reducible refine belowDrewN ?_ _ | ((with_reducible refine Below.setCell ?_ ?_ _); rotate_left; focus (first | omega | (simp; done) | (simp; omega))) | ((with_reducible refine Below.alloc ?_ ?_ _); rotate_left; focus (first | omega | (simp; done) | (simp; omega)))))⟩
      · have hk2 : k = s.size := by omega
        subst hk2
        have htk : (s.data.toList.drop 0).take (s.size - 0) = s.data.toList.drop 0 := List.take_of_length_le (by rw [HDL.out]; omega)
        rw [htk] at hdf
        have hmb := decFrom_lt _ _ _ hdf
        have hm9 : m < 1000000000 := by
          have hp := Nat.pow_le_pow_right (show 0 < 10 by decide) (show (s.data.toList.drop 0).length ≤ 9 by rw [HDL.out]; omega)
          have e : (10 : Nat) ^ 9 = 1000000000 := by decide
          rw [e] at hp; omega
        have hend := num_end (s := s.data.toList) (m := m) (by rw [HAT.out]; exact hdf) (by rw [HAT.out, HDL.out]; omega) ((m : Int)) (by rw [HAT.out]; rfl)
        have hI : I64 ((m : Int)) := by unfold I64; omega
        skip
        have HDF := Lib.hid hdf; clear hdf; have HTK := Lib.hid htk; clear htk; have HMB := Lib.hid hmb; clear hmb
        by_cases he : Lib.itoa ((m : Int)) = s.data.toList
        · rw [if_pos he] at hend
          have hba := baOf he.symm
          have HEND := Lib.hid hend; clear hend; have HE := Lib.hid he; clear he; have HBA := Lib.hid hba; clear hba
          go_wp2_with fail
          refine (sFormatNumber_calls _ _ hI).mono ?_
          rintro e w1 ⟨rfl, hb1⟩
          rw [← HBA.out]
          go_wp2_with fail
          go_ret2
          exact ⟨by rw [HEND.out]; rfl, by (repeat (first | with_reducible assumption | with_reducible exact Below.refl _ _ | with_reducible refine Below.drew ?_ | with_reducible refine belowDrewN ?_ _ | ((with_reducible refine Below.setCell ?_ ?_ _); rotate_left; focus (first | omega | (simp; done) | (simp; omega))) | ((with_reducible refine Below.alloc ?_ ?_ _); rotate_left; focus (first | omega | (simp; done) | (simp; omega))) | ((with_reducible refine Below.trans ?_ (Below.mono hb1 ?_)); rotate_left; focus (first | omega | (simp; done) | (simp; omega)))))⟩
        · rw [if_neg he] at hend
          obtain ⟨B, hBB⟩ : ∃ B : ByteArray, B = ⟨(Lib.itoa ((m : Int))).toArray⟩ := ⟨_, rfl⟩
          have hbn : ¬ B = s := fun h => he (by rw [← h, hBB])
          have hbb := ba_ne hbn
          have HEND := Lib.hid hend; clear hend; have HE := Lib.hid he; clear he; have HBN := Lib.hid hbn; clear hbn; have HBB_ := Lib.hid hBB; clear hBB
          go_wp2_with fail
          refine (sFormatNumber_calls _ _ hI).mono ?_
          rintro e w1 ⟨rfl, hb1⟩
          rw [← HBB_.out]
          go_wp2_with fail
          go_ret2
          exact ⟨by rw [HEND.out]; rfl, by (repeat (first | with_reducible assumption | with_reducible exact Below.refl _ _ | with_reducible refine Below.drew ?_ | with_reducible refine belowDrewN ?_ _ | ((with_reducible refine Below.setCell ?_ ?_ _); rotate_left; focus (first | omega | (simp; done) | (simp; omega))) | ((with_reducible refine Below.alloc ?_ ?_ _); rotate_left; focus (first | omega | (simp; done) | (simp; omega))) | ((with_reducible refine Below.trans ?_ (Below.mono hb1 ?_)); rotate_left; focus (first | omega | (simp; done) | (simp; omega)))))⟩
end Go.Proofs.YtigmgfinjapchaaDoor

/-
  The library's contracts on strconv.Atoi, laid at this program (written by the kit's lay-shelf.mjs and lay-plain.mjs at one seat: its numbers; wip/tools/shelf.py). Conditions: those told with each.
-/
namespace Go.Proofs
open Go.Shelf
def Tryd.lays172_ren : Go.Shelf.Ren := ⟨fun | 172 => 92 | 244 => 97 | 245 => 98 | 247 => 104 | 279 => 105 | 280 => 106 | 281 => 107 | 282 => 108 | 287 => 111 | 316 => 112 | 171 => 58 | 205 => 113 | 321 => 114 | 322 => 115 | 243 => 84 | 246 => 91 | 283 => 93 | 284 => 94 | 285 => 95 | 286 => 96 | 129 => 100 | 317 => 99 | 318 => 101 | 319 => 102 | 320 => 103 | 337 => 109 | 338 => 110 | n => n, fun | 9 => 9 | 3 => 3 | 75 => 101 | 76 => 102 | 4 => 4 | 5 => 5 | 167 => 116 | 37 => 37 | 0 => 0 | 85 => 117 | 2 => 2 | 168 => 119 | 53 => 97 | 175 => 123 | 46 => 96 | 210 => 127 | 127 => 132 | 145 => 135 | 143 => 133 | 21 => 21 | 171 => 104 | 173 => 107 | 212 => 111 | 51 => 112 | 20 => 20 | 213 => 113 | 232 => 129 | 233 => 130 | 80 => 136 | n => n, fun | 15 => 1 | 16 => 2 | 17 => 0 | 18 => 3 | 19 => 4 | n => n⟩
theorem Tryd.lays172 : Go.Proofs.Lays.n172 Tryd.prog Tryd.lays172_ren := {
  mixed := by kernel_rfl
  f129 := Tryd.func100.trans (congrArg some (by kernel_rfl))
  f171 := Tryd.func58.trans (congrArg some (by kernel_rfl))
  f172 := Tryd.func92.trans (congrArg some (by kernel_rfl))
  f205 := Tryd.func113.trans (congrArg some (by kernel_rfl))
  f243 := Tryd.func84.trans (congrArg some (by kernel_rfl))
  f244 := Tryd.func97.trans (congrArg some (by kernel_rfl))
  f245 := Tryd.func98.trans (congrArg some (by kernel_rfl))
  f246 := Tryd.func91.trans (congrArg some (by kernel_rfl))
  f247 := Tryd.func104.trans (congrArg some (by kernel_rfl))
  f279 := Tryd.func105.trans (congrArg some (by kernel_rfl))
  f280 := Tryd.func106.trans (congrArg some (by kernel_rfl))
  f281 := Tryd.func107.trans (congrArg some (by kernel_rfl))
  f282 := Tryd.func108.trans (congrArg some (by kernel_rfl))
  f283 := Tryd.func93.trans (congrArg some (by kernel_rfl))
  f284 := Tryd.func94.trans (congrArg some (by kernel_rfl))
  f285 := Tryd.func95.trans (congrArg some (by kernel_rfl))
  f286 := Tryd.func96.trans (congrArg some (by kernel_rfl))
  f287 := Tryd.func111.trans (congrArg some (by kernel_rfl))
  f316 := Tryd.func112.trans (congrArg some (by kernel_rfl))
  f317 := Tryd.func99.trans (congrArg some (by kernel_rfl))
  f318 := Tryd.func101.trans (congrArg some (by kernel_rfl))
  f319 := Tryd.func102.trans (congrArg some (by kernel_rfl))
  f320 := Tryd.func103.trans (congrArg some (by kernel_rfl))
  f321 := Tryd.func114.trans (congrArg some (by kernel_rfl))
  f322 := Tryd.func115.trans (congrArg some (by kernel_rfl))
  f337 := Tryd.func109.trans (congrArg some (by kernel_rfl))
  f338 := Tryd.func110.trans (congrArg some (by kernel_rfl))
  t0 := Tryd.underlying0
  a0 := Tryd.isAgg0
  z0 := Tryd.sizeOf0
  v0 := Tryd.zeroValue0
  t2 := Tryd.underlying2
  a2 := Tryd.isAgg2
  z2 := Tryd.sizeOf2
  v2 := Tryd.zeroValue2
  t3 := Tryd.underlying3
  a3 := Tryd.isAgg3
  z3 := Tryd.sizeOf3
  v3 := Tryd.zeroValue3
  t4 := Tryd.underlying4
  a4 := Tryd.isAgg4
  z4 := Tryd.sizeOf4
  v4 := Tryd.zeroValue4
  t5 := Tryd.underlying5
  a5 := Tryd.isAgg5
  z5 := Tryd.sizeOf5
  v5 := Tryd.zeroValue5
  t9 := Tryd.underlying9
  a9 := Tryd.isAgg9
  z9 := Tryd.sizeOf9
  v9 := Tryd.zeroValue9
  t20 := Tryd.underlying20
  a20 := Tryd.isAgg20
  z20 := Tryd.sizeOf20
  v20 := Tryd.zeroValue20
  t21 := Tryd.underlying21
  a21 := Tryd.isAgg21
  z21 := Tryd.sizeOf21
  v21 := Tryd.zeroValue21
  t37 := Tryd.underlying37
  a37 := Tryd.isAgg37
  z37 := Tryd.sizeOf37
  v37 := Tryd.zeroValue37
  t46 := Tryd.underlying96
  a46 := Tryd.isAgg96
  z46 := Tryd.sizeOf96
  v46 := Tryd.zeroValue96
  t51 := Tryd.underlying112
  a51 := Tryd.isAgg112
  z51 := Tryd.sizeOf112
  v51 := Tryd.zeroValue112
  t53 := Tryd.underlying97
  a53 := Tryd.isAgg97
  z53 := Tryd.sizeOf97
  v53 := Tryd.zeroValue97
  t75 := Tryd.underlying101
  a75 := Tryd.isAgg101
  z75 := Tryd.sizeOf101
  v75 := Tryd.zeroValue101
  t76 := Tryd.underlying102
  a76 := Tryd.isAgg102
  z76 := Tryd.sizeOf102
  v76 := Tryd.zeroValue102
  t85 := Tryd.underlying117
  a85 := Tryd.isAgg117
  z85 := Tryd.sizeOf117
  v85 := Tryd.zeroValue117
  t127 := Tryd.underlying132
  a127 := Tryd.isAgg132
  z127 := Tryd.sizeOf132
  v127 := Tryd.zeroValue132
  t143 := Tryd.underlying133
  a143 := Tryd.isAgg133
  z143 := Tryd.sizeOf133
  v143 := Tryd.zeroValue133
  t145 := Tryd.underlying135
  a145 := Tryd.isAgg135
  z145 := Tryd.sizeOf135
  v145 := Tryd.zeroValue135
  t167 := Tryd.underlying116
  a167 := Tryd.isAgg116
  z167 := Tryd.sizeOf116
  v167 := Tryd.zeroValue116
  t168 := Tryd.underlying119
  a168 := Tryd.isAgg119
  z168 := Tryd.sizeOf119
  v168 := Tryd.zeroValue119
  t171 := Tryd.underlying104
  a171 := Tryd.isAgg104
  z171 := Tryd.sizeOf104
  v171 := Tryd.zeroValue104
  t173 := Tryd.underlying107
  a173 := Tryd.isAgg107
  z173 := Tryd.sizeOf107
  v173 := Tryd.zeroValue107
  t175 := Tryd.underlying123
  a175 := Tryd.isAgg123
  z175 := Tryd.sizeOf123
  v175 := Tryd.zeroValue123
  t210 := Tryd.underlying127
  a210 := Tryd.isAgg127
  z210 := Tryd.sizeOf127
  v210 := Tryd.zeroValue127
  t212 := Tryd.underlying111
  a212 := Tryd.isAgg111
  z212 := Tryd.sizeOf111
  v212 := Tryd.zeroValue111
  t213 := Tryd.underlying113
  a213 := Tryd.isAgg113
  z213 := Tryd.sizeOf113
  t232 := Tryd.underlying129
  a232 := Tryd.isAgg129
  z232 := Tryd.sizeOf129
  v232 := Tryd.zeroValue129
  t233 := Tryd.underlying130
  a233 := Tryd.isAgg130
  z233 := Tryd.sizeOf130
  v233 := Tryd.zeroValue130
  g15 := by kernel_rfl
  g16 := by kernel_rfl
  g17 := by kernel_rfl
  g18 := by kernel_rfl
  g19 := by kernel_rfl }
open Go.RowKit in
/-- strconv.Atoi: "Atoi is equivalent to ParseInt(s, 10, 0), converted to type int.": AT A DECIMAL NUMERAL OF AT MOST 18 BYTES: its value, and a nil error. The world behind the call: the one new row that the library's '[]byte(s)' lays. (LAID: no walk: one application.) -/
theorem Tryd.strconv_Atoi (s : ByteArray) (n : Int) (hl : s.size ≤ 18) (h : Lib.atoi s.data.toList = some n) (w : World) :
    Calls Tryd.prog 92 #[.string s] w fun e w' => e = .returned (.tuple #[.int .i64 n, .nilIface]) ∧ ∃ t, w' = Lib.bytesWorld w 5 t := Any.strconv_Atoi Tryd.lays172 s n hl h w
def Tryd.laysC172_ren : Go.Shelf.Ren := ⟨fun | 172 => 92 | 244 => 97 | 245 => 98 | 247 => 104 | 279 => 105 | 280 => 106 | 281 => 107 | 282 => 108 | 287 => 111 | 316 => 112 | 171 => 58 | 205 => 113 | 321 => 114 | 322 => 115 | 243 => 84 | 246 => 91 | 283 => 93 | 284 => 94 | 285 => 95 | 286 => 96 | 129 => 100 | 317 => 99 | 318 => 101 | 319 => 102 | 320 => 103 | 337 => 109 | 338 => 110 | n => n, fun | 9 => 9 | 3 => 3 | 75 => 101 | 76 => 102 | 4 => 4 | 5 => 5 | 167 => 116 | 37 => 37 | 0 => 0 | 85 => 117 | 2 => 2 | 168 => 119 | 53 => 97 | 175 => 123 | 46 => 96 | 210 => 127 | 127 => 132 | 145 => 135 | 143 => 133 | 21 => 21 | 171 => 104 | 173 => 107 | 212 => 111 | 51 => 112 | 20 => 20 | 213 => 113 | 232 => 129 | 233 => 130 | 80 => 136 | n => n, fun | 15 => 1 | 16 => 2 | 17 => 0 | 18 => 3 | 19 => 4 | n => n⟩
theorem Tryd.laysC172 : Go.Proofs.LaysC.n172 Tryd.prog Tryd.laysC172_ren := {
  mixed := by kernel_rfl
  f129 := Tryd.func100.trans (congrArg some (by kernel_rfl))
  f171 := Tryd.func58.trans (congrArg some (by kernel_rfl))
  f172 := Tryd.func92.trans (congrArg some (by kernel_rfl))
  f205 := Tryd.func113.trans (congrArg some (by kernel_rfl))
  f243 := Tryd.func84.trans (congrArg some (by kernel_rfl))
  f244 := Tryd.func97.trans (congrArg some (by kernel_rfl))
  f245 := Tryd.func98.trans (congrArg some (by kernel_rfl))
  f246 := Tryd.func91.trans (congrArg some (by kernel_rfl))
  f247 := Tryd.func104.trans (congrArg some (by kernel_rfl))
  f279 := Tryd.func105.trans (congrArg some (by kernel_rfl))
  f280 := Tryd.func106.trans (congrArg some (by kernel_rfl))
  f281 := Tryd.func107.trans (congrArg some (by kernel_rfl))
  f282 := Tryd.func108.trans (congrArg some (by kernel_rfl))
  f283 := Tryd.func93.trans (congrArg some (by kernel_rfl))
  f284 := Tryd.func94.trans (congrArg some (by kernel_rfl))
  f285 := Tryd.func95.trans (congrArg some (by kernel_rfl))
  f286 := Tryd.func96.trans (congrArg some (by kernel_rfl))
  f287 := Tryd.func111.trans (congrArg some (by kernel_rfl))
  f316 := Tryd.func112.trans (congrArg some (by kernel_rfl))
  f317 := Tryd.func99.trans (congrArg some (by kernel_rfl))
  f318 := Tryd.func101.trans (congrArg some (by kernel_rfl))
  f319 := Tryd.func102.trans (congrArg some (by kernel_rfl))
  f320 := Tryd.func103.trans (congrArg some (by kernel_rfl))
  f321 := Tryd.func114.trans (congrArg some (by kernel_rfl))
  f322 := Tryd.func115.trans (congrArg some (by kernel_rfl))
  f337 := Tryd.func109.trans (congrArg some (by kernel_rfl))
  f338 := Tryd.func110.trans (congrArg some (by kernel_rfl))
  t0 := Tryd.underlying0
  a0 := Tryd.isAgg0
  z0 := Tryd.sizeOf0
  v0 := Tryd.zeroValue0
  t2 := Tryd.underlying2
  a2 := Tryd.isAgg2
  z2 := Tryd.sizeOf2
  v2 := Tryd.zeroValue2
  t3 := Tryd.underlying3
  a3 := Tryd.isAgg3
  z3 := Tryd.sizeOf3
  v3 := Tryd.zeroValue3
  t4 := Tryd.underlying4
  a4 := Tryd.isAgg4
  z4 := Tryd.sizeOf4
  v4 := Tryd.zeroValue4
  t5 := Tryd.underlying5
  a5 := Tryd.isAgg5
  z5 := Tryd.sizeOf5
  v5 := Tryd.zeroValue5
  t9 := Tryd.underlying9
  a9 := Tryd.isAgg9
  z9 := Tryd.sizeOf9
  v9 := Tryd.zeroValue9
  t20 := Tryd.underlying20
  a20 := Tryd.isAgg20
  z20 := Tryd.sizeOf20
  v20 := Tryd.zeroValue20
  t21 := Tryd.underlying21
  a21 := Tryd.isAgg21
  z21 := Tryd.sizeOf21
  v21 := Tryd.zeroValue21
  t37 := Tryd.underlying37
  a37 := Tryd.isAgg37
  z37 := Tryd.sizeOf37
  v37 := Tryd.zeroValue37
  t46 := Tryd.underlying96
  a46 := Tryd.isAgg96
  z46 := Tryd.sizeOf96
  v46 := Tryd.zeroValue96
  t51 := Tryd.underlying112
  a51 := Tryd.isAgg112
  z51 := Tryd.sizeOf112
  v51 := Tryd.zeroValue112
  t53 := Tryd.underlying97
  a53 := Tryd.isAgg97
  z53 := Tryd.sizeOf97
  v53 := Tryd.zeroValue97
  t75 := Tryd.underlying101
  a75 := Tryd.isAgg101
  z75 := Tryd.sizeOf101
  v75 := Tryd.zeroValue101
  t76 := Tryd.underlying102
  a76 := Tryd.isAgg102
  z76 := Tryd.sizeOf102
  v76 := Tryd.zeroValue102
  t85 := Tryd.underlying117
  a85 := Tryd.isAgg117
  z85 := Tryd.sizeOf117
  v85 := Tryd.zeroValue117
  t127 := Tryd.underlying132
  a127 := Tryd.isAgg132
  z127 := Tryd.sizeOf132
  v127 := Tryd.zeroValue132
  t143 := Tryd.underlying133
  a143 := Tryd.isAgg133
  z143 := Tryd.sizeOf133
  v143 := Tryd.zeroValue133
  t145 := Tryd.underlying135
  a145 := Tryd.isAgg135
  z145 := Tryd.sizeOf135
  v145 := Tryd.zeroValue135
  t167 := Tryd.underlying116
  a167 := Tryd.isAgg116
  z167 := Tryd.sizeOf116
  v167 := Tryd.zeroValue116
  t168 := Tryd.underlying119
  a168 := Tryd.isAgg119
  z168 := Tryd.sizeOf119
  v168 := Tryd.zeroValue119
  t171 := Tryd.underlying104
  a171 := Tryd.isAgg104
  z171 := Tryd.sizeOf104
  v171 := Tryd.zeroValue104
  t173 := Tryd.underlying107
  a173 := Tryd.isAgg107
  z173 := Tryd.sizeOf107
  v173 := Tryd.zeroValue107
  t175 := Tryd.underlying123
  a175 := Tryd.isAgg123
  z175 := Tryd.sizeOf123
  v175 := Tryd.zeroValue123
  t210 := Tryd.underlying127
  a210 := Tryd.isAgg127
  z210 := Tryd.sizeOf127
  v210 := Tryd.zeroValue127
  t212 := Tryd.underlying111
  a212 := Tryd.isAgg111
  z212 := Tryd.sizeOf111
  v212 := Tryd.zeroValue111
  t213 := Tryd.underlying113
  a213 := Tryd.isAgg113
  z213 := Tryd.sizeOf113
  t232 := Tryd.underlying129
  a232 := Tryd.isAgg129
  z232 := Tryd.sizeOf129
  v232 := Tryd.zeroValue129
  t233 := Tryd.underlying130
  a233 := Tryd.isAgg130
  z233 := Tryd.sizeOf130
  v233 := Tryd.zeroValue130
  g15 := by kernel_rfl
  g16 := by kernel_rfl
  g17 := by kernel_rfl
  g18 := by kernel_rfl
  g19 := by kernel_rfl
  t80 := Tryd.underlying136
  a80 := Tryd.isAgg136
  z80 := Tryd.sizeOf136
  v80 := Tryd.zeroValue136
  i0 := by kernel_rfl
  i2 := by kernel_rfl
  i3 := by kernel_rfl
  i4 := by kernel_rfl
  i5 := by kernel_rfl
  i9 := by kernel_rfl
  i20 := by kernel_rfl
  i21 := by kernel_rfl
  i37 := by kernel_rfl
  i46 := by kernel_rfl
  i51 := by kernel_rfl
  i53 := by kernel_rfl
  i75 := by kernel_rfl
  i76 := by kernel_rfl
  i80 := by kernel_rfl
  i85 := by kernel_rfl
  i127 := by kernel_rfl
  i143 := by kernel_rfl
  i145 := by kernel_rfl
  i167 := by kernel_rfl
  i168 := by kernel_rfl
  i171 := by kernel_rfl
  i173 := by kernel_rfl
  i175 := by kernel_rfl
  i210 := by kernel_rfl
  i212 := by kernel_rfl
  i232 := by kernel_rfl
  i233 := by kernel_rfl
  m15 := by kernel_rfl
  m16 := by kernel_rfl
  m17 := by kernel_rfl
  m18 := by kernel_rfl
  m19 := by kernel_rfl
  c0 := by kernel_rfl
  c2 := by kernel_rfl
  c3 := by kernel_rfl
  c4 := by kernel_rfl
  c5 := by kernel_rfl
  c9 := by kernel_rfl
  c20 := by kernel_rfl
  c21 := by kernel_rfl
  c37 := by kernel_rfl
  c46 := by kernel_rfl
  c51 := by kernel_rfl
  c53 := by kernel_rfl
  c75 := by kernel_rfl
  c76 := by kernel_rfl
  c80 := by kernel_rfl
  c85 := by kernel_rfl
  c127 := by kernel_rfl
  c143 := by kernel_rfl
  c145 := by kernel_rfl
  c167 := by kernel_rfl
  c168 := by kernel_rfl
  c171 := by kernel_rfl
  c173 := by kernel_rfl
  c175 := by kernel_rfl
  c210 := by kernel_rfl
  c212 := by kernel_rfl
  c213 := by kernel_rfl
  c232 := by kernel_rfl
  c233 := by kernel_rfl }
open Go.RowKit in
theorem Tryd.strconv_Atoi_err_var (s : ByteArray) (hl : s.size ≤ 18) (h : Lib.atoi s.data.toList = none) (tp : TypeId) (p : Value) (w : World) (hvar : w.var? Tryd.prog "strconv.ErrSyntax" = some #[.iface tp p]) :
    Calls Tryd.prog 92 #[.string s] w fun e w' => ∃ N, e = .returned (.tuple #[.int .i64 0, .iface 119 (.pointer (some ⟨N, 0, none⟩))]) ∧ w.heap.size ≤ N ∧ w'.heap[N]? = some (.cells #[.string ⟨#[65, 116, 111, 105]⟩, .string s, .iface tp p] 127 (0, 0)) ∧ Below w.heap.size w w' := Any.strconv_Atoi_err_var Tryd.laysC172 s hl h tp p w hvar
end Go.Proofs

/-
  Walks: the number that a text is, the program's side. Conditions: the library's table of powers of ten reads as laid, strconv.ErrSyntax holds an error.
-/
set_option linter.unusedVariables false
set_option linter.unusedSimpArgs false
set_option maxRecDepth 100000
namespace Go.Proofs.YtigmgfinjapchaaDoor
open Go.RowKit

/-- the variable strconv.ErrSyntax holds an error, in every world that keeps what lies below B -/
def Sent (B : Nat) (w : World) : Prop := ∀ w', Below B w w' → ∃ tp p, w'.var? Tryd.prog "strconv.ErrSyntax" = some #[.iface tp p]
theorem Sent.on {B : Nat} {w w' : World} (h : Sent B w) (hb : Below B w w') : Sent B w' := fun w2 h2 => h w2 (hb.trans h2)
theorem Sent.mono {B C : Nat} {w : World} (h : Sent B w) (hc : B ≤ C) : Sent C w := fun w2 h2 => h w2 (h2.mono hc)
theorem gErr_ : Tryd.prog.globalNamed "strconv.ErrSyntax" = some 1 := by kernel_rfl
theorem Sent.of {w : World} {tp : TypeId} {p : Value} (h : w.var? Tryd.prog "strconv.ErrSyntax" = some #[.iface tp p]) : Sent w.heap.size w := by
  intro w' hb
  refine ⟨tp, p, ?_⟩
  unfold World.var? at h ⊢
  rw [gErr_] at h ⊢
  simp only [Option.bind_eq_bind, Option.bind_some] at h ⊢
  cases hg : w.heap[1]? with
  | none => rw [hg] at h; simp at h
  | some o => rw [hb.block _ (Array.getElem?_eq_some_iff.1 hg).1]; exact h
set_option maxHeartbeats 2000000 in
theorem iParseNumber_calls (s : ByteArray) (w : World) (hs : s.size ≤ 9223372036854775807) (B : Nat) (hT : Tab B w) (hE : Sent B w) (hBw : B ≤ w.heap.size) :
    Calls Tryd.prog 87 #[.string s] w (Ret (numV (numOf s.data.toList)) w) := by
  have hsl : s.data.toList.length = s.size := rfl
  by_cases h0 : s.size = 0
  · have hno := num_none_size (s := s.data.toList) (.inl h0)
    have hz : ((s.size : Int) == 0) = true := by simp [h0]
    have HNO := Lib.hid hno; clear hno; have HT := Lib.hid hT; clear hT; have HE := Lib.hid hE; clear hE; have HSL := Lib.hid hsl; clear hsl
    go_enter Tryd.func87, Tryd.ntmps87
    go_wp2_with fail
    go_ret2
    exact ⟨by rw [HNO.out]; rfl, by (repeat (first | with_reducible assumption | with_reducible exact Below.refl _ _ | with_reducible refine Below.drew ?_ | with_reducible refine belowDrewN ?_ _ | ((with_reducible refine Below.setCell ?_ ?_ _); rotate_left; focus (first | omega | (simp; done) | (simp; omega))) | ((with_reducible refine Below.alloc ?_ ?_ _); rotate_left; focus (first | omega | (simp; done) | (simp; omega)))))⟩
  have hz : ((s.size : Int) == 0) = false := beq_eq_false_iff_ne.2 (by omega)
  by_cases h10 : 10 < s.size
  · have hno := num_none_size (s := s.data.toList) (.inr h10)
    have h10i : 10 < (s.size : Int) := by omega
    have HNO := Lib.hid hno; clear hno; have HT := Lib.hid hT; clear hT; have HE := Lib.hid hE; clear hE; have HSL := Lib.hid hsl; clear hsl
    go_enter Tryd.func87, Tryd.ntmps87
    go_wp2_with fail
    go_ret2
    exact ⟨by rw [HNO.out]; rfl, by (repeat (first | with_reducible assumption | with_reducible exact Below.refl _ _ | with_reducible refine Below.drew ?_ | with_reducible refine belowDrewN ?_ _ | ((with_reducible refine Below.setCell ?_ ?_ _); rotate_left; focus (first | omega | (simp; done) | (simp; omega))) | ((with_reducible refine Below.alloc ?_ ?_ _); rotate_left; focus (first | omega | (simp; done) | (simp; omega)))))⟩
  have h10i : ¬ 10 < (s.size : Int) := by omega
  cases ha : Lib.atoi s.data.toList with
  | none =>
    have hno := numOf_none_atoi ha
    obtain ⟨tp, p, hv⟩ := hE w (Below.refl _ _)
    have HNO := Lib.hid hno; clear hno; have HT := Lib.hid hT; clear hT; have HE := Lib.hid hE; clear hE; have HSL := Lib.hid hsl; clear hsl; have HA := Lib.hid ha; clear ha; have HV := Lib.hid hv; clear hv
    go_enter Tryd.func87, Tryd.ntmps87
    go_wp2_with fail
    refine (Tryd.strconv_Atoi_err_var s (by omega) HA.out tp p _ HV.out).mono ?_
    rintro e w1 ⟨N, rfl, h1, h2, hb1⟩
    have H2 := Lib.hid h2; clear h2
    go_wp2_with fail
    go_ret2
    exact ⟨by rw [HNO.out]; rfl, hb1⟩
  | some n =>
    have hbd := Lib.atoi_bound ha (by omega)
    have hI : I64 n := by unfold I64; omega
    by_cases hlo : n < -999999999
    · have hno := numOf_none_bad ha (by omega)
      have HNO := Lib.hid hno; clear hno; have HT := Lib.hid hT; clear hT; have HE := Lib.hid hE; clear hE; have HSL := Lib.hid hsl; clear hsl; have HA := Lib.hid ha; clear ha
      go_enter Tryd.func87, Tryd.ntmps87
      go_wp2_with fail
      refine (Tryd.strconv_Atoi s n (by omega) HA.out _).mono ?_
      rintro e w1 ⟨rfl, t, hw1⟩
      have hb1 : Below w.heap.size w w1 := by rw [hw1]; exact Lib.bytesWorld_below _ _ _
      have HW1 := Lib.hid hw1; clear hw1
      go_wp2_with fail
      go_ret2
      exact ⟨by rw [HNO.out]; rfl, hb1⟩
    by_cases hhi : 999999999 < n
    · have hno := numOf_none_bad ha (by omega)
      have HNO := Lib.hid hno; clear hno; have HT := Lib.hid hT; clear hT; have HE := Lib.hid hE; clear hE; have HSL := Lib.hid hsl; clear hsl; have HA := Lib.hid ha; clear ha
      go_enter Tryd.func87, Tryd.ntmps87
      go_wp2_with fail
      refine (Tryd.strconv_Atoi s n (by omega) HA.out _).mono ?_
      rintro e w1 ⟨rfl, t, hw1⟩
      have hb1 : Below w.heap.size w w1 := by rw [hw1]; exact Lib.bytesWorld_below _ _ _
      have HW1 := Lib.hid hw1; clear hw1
      go_wp2_with fail
      go_ret2
      exact ⟨by rw [HNO.out]; rfl, hb1⟩
    by_cases he : Lib.itoa n = s.data.toList
    · have hno := numOf_yes he (by omega) (by omega)
      have hba := baOf he.symm
      have HNO := Lib.hid hno; clear hno; have HT := Lib.hid hT; clear hT; have HE := Lib.hid hE; clear hE; have HSL := Lib.hid hsl; clear hsl; have HA := Lib.hid ha; clear ha; have HE := Lib.hid he; clear he; have HBA := Lib.hid hba; clear hba
      go_enter Tryd.func87, Tryd.ntmps87
      go_wp2_with fail
      refine (Tryd.strconv_Atoi s n (by omega) HA.out _).mono ?_
      rintro e w1 ⟨rfl, t, hw1⟩
      have hb1 : Below w.heap.size w w1 := by rw [hw1]; exact Lib.bytesWorld_below _ _ _
      have hz1 := hb1.size
      have HW1 := Lib.hid hw1; clear hw1
      go_wp2_with fail
      refine (iFormatNumber_calls n _ hI B (HT.out.on (hb1.mono hBw)) (by omega)).mono ?_
      rintro e w2 ⟨rfl, hb2⟩
      rw [← HBA.out]
      go_wp2_with fail
      go_ret2
      exact ⟨by rw [HNO.out]; rfl, by (repeat (first | with_reducible assumption | with_reducible exact Below.refl _ _ | with_reducible refine Below.drew ?_ | with_reducible refine belowDrewN ?_ _ | ((with_reducible refine Below.setCell ?_ ?_ _); rotate_left; focus (first | omega | (simp; done) | (simp; omega))) | ((with_reducible refine Below.alloc ?_ ?_ _); rotate_left; focus (first | omega | (simp; done) | (simp; omega))) | ((with_reducible refine Below.trans ?_ (Below.mono hb1 ?_)); rotate_left; focus (first | omega | (simp; done) | (simp; omega))) | ((with_reducible refine Below.trans ?_ (Below.mono hb2 ?_)); rotate_left; focus (first | omega | (simp; done) | (simp; omega)))))⟩
    · have hno := numOf_none_bad ha (by intro h; exact he h.2.2)
      obtain ⟨X, hBB⟩ : ∃ X : ByteArray, X = ⟨(Lib.itoa n).toArray⟩ := ⟨_, rfl⟩
      have hbn : ¬ X = s := fun h => he (by rw [← h, hBB])
      have hbb := ba_ne hbn
      have HNO := Lib.hid hno; clear hno; have HT := Lib.hid hT; clear hT; have HE := Lib.hid hE; clear hE; have HSL := Lib.hid hsl; clear hsl; have HA := Lib.hid ha; clear ha; have HE := Lib.hid he; clear he; have HBN := Lib.hid hbn; clear hbn; have HBB_ := Lib.hid hBB; clear hBB
      go_enter Tryd.func87, Tryd.ntmps87
      go_wp2_with fail
      refine (Tryd.strconv_Atoi s n (by omega) HA.out _).mono ?_
      rintro e w1 ⟨rfl, t, hw1⟩
      have hb1 : Below w.heap.size w w1 := by rw [hw1]; exact Lib.bytesWorld_below _ _ _
      have hz1 := hb1.size
      have HW1 := Lib.hid hw1; clear hw1
      go_wp2_with fail
      refine (iFormatNumber_calls n _ hI B (HT.out.on (hb1.mono hBw)) (by omega)).mono ?_
      rintro e w2 ⟨rfl, hb2⟩
      rw [← HBB_.out]
      go_wp2_with fail
      go_ret2
      exact ⟨by rw [HNO.out]; rfl, by (repeat (first | with_reducible assumption | with_reducible exact Below.refl _ _ | with_reducible refine Below.drew ?_ | with_reducible refine belowDrewN ?_ _ | ((with_reducible refine Below.setCell ?_ ?_ _); rotate_left; focus (first | omega | (simp; done) | (simp; omega))) | ((with_reducible refine Below.alloc ?_ ?_ _); rotate_left; focus (first | omega | (simp; done) | (simp; omega))) | ((with_reducible refine Below.trans ?_ (Below.mono hb1 ?_)); rotate_left; focus (first | omega | (simp; done) | (simp; omega))) | ((with_reducible refine Below.trans ?_ (Below.mono hb2 ?_)); rotate_left; focus (first | omega | (simp; done) | (simp; omega)))))⟩
end Go.Proofs.YtigmgfinjapchaaDoor

/-
  Walks: numbers drawn. No condition.
-/
set_option linter.unusedVariables false
set_option linter.unusedSimpArgs false
set_option maxRecDepth 100000
namespace Go.Proofs.YtigmgfinjapchaaDoor
open Go.RowKit

theorem l01Below_calls (n : Int) (pb : Nat) (a : Option Addr) (cap : Nat) (l : List Int) (w : World) (hc : Cur pb a cap l w) (h1 : 1 ≤ n) (h9 : n ≤ 9223372036854775807) :
    Calls Tryd.prog 46 #[.pointer (some ⟨pb, 0, none⟩), .int .i64 n] w (Drawn 0 (n - 1) pb a cap l w) := by
  have hne : ¬ n = 0 := by omega
  by_cases h256 : n ≤ 256
  · go_enter Tryd.func46, Tryd.ntmps46
    go_wp2_with fail
    refine (l01Byte_calls pb a cap l _ hc).mono ?_
    rintro e w1 ⟨x, rfl, hx0, hx1, hc1, ho1⟩
    have hm1 := Int.tmod_nonneg n hx0
    have hm2 := Int.tmod_lt_of_pos x (show 0 < n by omega)
    have HC1 := Lib.hid hc1; clear hc1; have HO1 := Lib.hid ho1; clear ho1
    go_wp2_with fail
    go_ret
    exact ⟨_, rfl, by first | exact hm1 | (rw [← Int.tmod_eq_emod_of_nonneg hx0]; exact hm1), by first | (have := hm2; omega) | (rw [← Int.tmod_eq_emod_of_nonneg hx0]; omega), HC1.out, HO1.out⟩
  · go_enter Tryd.func46, Tryd.ntmps46
    go_wp2_with fail
    refine (l01Byte_calls pb a cap l _ hc).mono ?_
    rintro e w1 ⟨x, rfl, hx0, hx1, hc1, ho1⟩
    have HO1 := Lib.hid ho1; clear ho1
    go_wp2_with fail
    refine (l01Byte_calls pb a cap l _ hc1).mono ?_
    rintro e w2 ⟨y, rfl, hy0, hy1, hc2, ho2⟩
    have HO2 := Lib.hid ho2; clear ho2; have HC1 := Lib.hid hc1; clear hc1
    go_wp2_with fail
    refine (l01Byte_calls pb a cap l _ hc2).mono ?_
    rintro e w3 ⟨z, rfl, hz0, hz1, hc3, ho3⟩
    have HO3 := Lib.hid ho3; clear ho3; have HC2 := Lib.hid hc2; clear hc2
    go_wp2_with fail
    refine (l01Byte_calls pb a cap l _ hc3).mono ?_
    rintro e w4 ⟨v, rfl, hv0, hv1, hc4, ho4⟩
    have hs0 : 0 ≤ x * 16777216 + y * 65536 + z * 256 + v := by omega
    have hm1 := Int.tmod_nonneg n hs0
    have hm2 := Int.tmod_lt_of_pos (x * 16777216 + y * 65536 + z * 256 + v) (show 0 < n by omega)
    have HO4 := Lib.hid ho4; clear ho4; have HC3 := Lib.hid hc3; clear hc3; have HC4 := Lib.hid hc4; clear hc4
    go_wp2_with fail
    go_ret
    exact ⟨_, rfl, by first | exact hm1 | (rw [← Int.tmod_eq_emod_of_nonneg hs0]; exact hm1), by first | (have := hm2; omega) | (rw [← Int.tmod_eq_emod_of_nonneg hs0]; omega), HC4.out, ((HO1.out.trans HO2.out).trans HO3.out).trans HO4.out⟩
def DrawnB (pb : Nat) (a : Option Addr) (cap : Nat) (l : List Int) (w : World) (e : Ending) (w' : World) : Prop :=
  ∃ b : Bool, e = .returned (.bool b) ∧ Cur pb a cap l w' ∧ OnlyIn pb (pb + 1) w w'
theorem l01Once_calls (n : Int) (pb : Nat) (a : Option Addr) (cap : Nat) (l : List Int) (w : World) (hc : Cur pb a cap l w) (h1 : 1 ≤ n) (h9 : n ≤ 9223372036854775807) :
    Calls Tryd.prog 42 #[.pointer (some ⟨pb, 0, none⟩), .int .i64 n] w (DrawnB pb a cap l w) := by
  have HC := Lib.hid hc; clear hc
  go_enter Tryd.func42, Tryd.ntmps42
  go_wp2_with fail
  refine (l01Below_calls n pb a cap l _ HC.out h1 h9).mono ?_
  rintro e w1 ⟨x, rfl, hx0, hx1, hc1, ho1⟩
  have HC1 := Lib.hid hc1; clear hc1; have HO1 := Lib.hid ho1; clear ho1
  go_wp2_with fail
  go_ret
  exact ⟨_, rfl, HC1.out, HO1.out⟩
theorem Ints.onlyIn {lo hi : Nat} {w w' : World} {a : Option Addr} {cap : Nat} {e : TypeId} {l : List Int} (h : (M.sl a cap 1 e (intM l)).In w) (k : OnlyIn lo hi w w') (hl : ∀ b ∈ addrBlocks a, b < lo ∨ hi ≤ b) : (M.sl a cap 1 e (intM l)).In w' := by
  obtain ⟨⟨hh, hu⟩, hx⟩ := h
  refine ⟨⟨⟨hh.len, hh.pos, hh.le, hh.max, hh.nil, fun ad had j u hj => ?_⟩, hu⟩, M.InL_of fun x hx => by simp [intM] at hx; obtain ⟨n, _, rfl⟩ := hx; trivial⟩
  have hc := hh.cell ad had j u hj
  have hb : (ad.add j).block = ad.block := by unfold Addr.add; split <;> rfl
  refine (World.cell?_of_block (k.block _ (World.block_lt_of_cell? w _ hc) ?_)).trans hc
  rw [hb]
  exact hl _ (by rw [had]; simp [addrBlocks])
/-- one of a list's numbers -/
def DrawnI (L : List Int) (pb : Nat) (a : Option Addr) (cap : Nat) (l : List Int) (w : World) (e : Ending) (w' : World) : Prop :=
  ∃ x : Int, e = .returned (.int .i64 x) ∧ x ∈ L ∧ Cur pb a cap l w' ∧ OnlyIn pb (pb + 1) w w'
theorem l01Int_calls (la : Option Addr) (lc : Nat) (L : List Int) (pb : Nat) (a : Option Addr) (cap : Nat) (l : List Int) (w : World) (hL : 0 < L.length) (hin : (M.sl la lc 1 3 (intM L)).In w) (hla : ∀ b ∈ addrBlocks la, b < pb ∨ pb + 1 ≤ b) (hc : Cur pb a cap l w) :
    Calls Tryd.prog 74 #[.pointer (some ⟨pb, 0, none⟩), .slice la L.length lc] w (DrawnI L pb a cap l w) := by
  have hl := Ints.len hin
  have HC := Lib.hid hc; clear hc; have HIN := Lib.hid hin; clear hin
  go_enter Tryd.func74, Tryd.ntmps74
  go_wp2_with fail
  refine (l01Below_calls L.length pb a cap l _ HC.out (by omega) (by omega)).mono ?_
  rintro e w1 ⟨x, rfl, hx0, hx1, hc1, ho1⟩
  obtain ⟨k, rfl⟩ := Int.eq_ofNat_of_zero_le hx0
  have hin1 := Ints.onlyIn HIN.out ho1 hla
  obtain ⟨b, off, z, rfl, hz, hcz⟩ := Ints.elem hin1 k (by omega)
  have hkl : k < L.length := by omega
  have hzm := List.mem_of_getElem? hz
  have HC1 := Lib.hid hc1; clear hc1; have HO1 := Lib.hid ho1; clear ho1; have HIN1 := Lib.hid hin1; clear hin1; have HZ := Lib.hid hz; clear hz; have HZM := Lib.hid hzm; clear hzm; have HLA := Lib.hid hla; clear hla
  go_wp2_with fail
  go_ret
  exact ⟨_, rfl, HZM.out, HC1.out, HO1.out⟩
end Go.Proofs.YtigmgfinjapchaaDoor

/-
  Lists of numbers that a call builds: append laws, copies. No condition.
-/
set_option linter.unusedVariables false
set_option linter.unusedSimpArgs false
set_option maxRecDepth 100000
namespace Go.Proofs.YtigmgfinjapchaaDoor
open Go.RowKit

/-- append(own, s...): a row of one's own, grown by all of a slice of simple cells. -/
theorem wpList_all {P : Program} {W : World} {ops : Array Oper} {rest : List Oper} {o : Oper} {act : Act} {Q : Exit → Act → World → Prop} (hgd : o.guard = none) (s x : Operand) (t : TypeId)
    (ho : o.op = .call { callee := .builtin .append, args := #[s, x], argTypes := #[t, t] })
    (e e' : TypeId) (z : Value) (bytes : Nat) (ht : P.underlying t = some (.slice e)) (hinfo : (P.info? e).map (fun i => (i.zero, i.size, i.bytes)) = some (some z, 1, bytes))
    (hzs : z.cells.size = 1) (lo : Nat) (a : Option Addr) (cap : Nat) (xs ys : List M) (hs : act.eval s = .slice a xs.length cap) (hrow : (M.sl a cap 1 e xs).Mine W lo) (hlo : lo ≤ W.heap.size)
    (ao : Option Addr) (c : Nat) (hx : act.eval x = .slice ao ys.length c) (h : (M.sl ao c 1 e' ys).In W) (h1 : ∀ y ∈ ys, ∃ v : Value, y = .c v ∧ v.oneCell' = true)
    (h63 : xs.length + ys.length ≤ maxLen) (hbytes : (xs.length + ys.length) * bytes ≤ 140737488355328)
    (k : ∀ a' cap' w', (M.sl a' cap' 1 e (xs ++ ys)).Mine w' lo → Below lo W w' → W.heap.size ≤ w'.heap.size →
      wpList P ops Q rest (act.put o.dst (.slice a' (xs.length + ys.length) cap')) w') : wpList P ops Q (o :: rest) act W := by
  have hob : M.blocksL ys = [] := by
    clear h hx h63 hbytes k
    induction ys with
    | nil => rfl
    | cons y r ih => obtain ⟨v, rfl, _⟩ := h1 y (List.mem_cons_self ..); simpa [M.blocksL, M.blocks] using ih fun z hz => h1 z (List.mem_cons_of_mem _ hz)
  have hown : M.MineL W lo ys := ⟨OwnL_iff.2 fun y hy => by obtain ⟨v, rfl, hv⟩ := h1 y hy; exact hv, by rw [hob]; exact List.nodup_nil⟩
  refine wpList_row _ hgd s x t ho e z 1 bytes ht hinfo hzs (by decide) lo a xs.length cap (M.cellsL xs) hs hrow.own.1.1 ao ys.length c (M.cellsL ys) hx (by simpa using h.1.1.len) h.1.1.nil h.1.1.cell ?_ h63 hbytes hlo ?_
  · exact M.OwnL.one ys hown.own
  · intro a' cap' w' hr hg ha
    refine k a' cap' w' (M.Mine.push hrow hr hg ha hown h.1.2 (by rw [hob]; simp)) ?_ hg.size
    exact grownBy_below (lo := lo) hg hlo fun b hb => (Mine.addr_lo hrow b hb).1

theorem intM_one (l : List Int) : ∀ y ∈ intM l, ∃ v : Value, y = .c v ∧ v.oneCell' = true := by
  intro y hy; simp only [intM, List.mem_map] at hy; obtain ⟨n, _, rfl⟩ := hy; exact ⟨_, rfl, rfl⟩
theorem Ints.nil (w : World) (lo : Nat) : (M.sl none 0 1 3 (intM [])).Mine w lo := M.Mine.nil _ _ _ _ (by decide)
/-- the empty literal '[]int{}' -/
theorem Ints.lit (w : World) (lo : Nat) (h : lo ≤ w.heap.size) : (M.sl (some ⟨w.heap.size, 0, none⟩) 0 1 3 (intM [])).Mine (w.alloc (.cells #[] 3)) lo :=
  M.Mine.new rfl h rfl (by decide) (by simp [intM]) (by simp [maxLen]) ⟨trivial, by simp [intM, M.blocksL]⟩

end Go.Proofs.YtigmgfinjapchaaDoor

/-
  Walks: WithoutUses. No condition.
-/
set_option linter.unusedVariables false
set_option linter.unusedSimpArgs false
set_option maxRecDepth 100000
namespace Go.Proofs.YtigmgfinjapchaaDoor
open Go.RowKit

theorem intM_snoc (l : List Int) (n : Int) : intM l ++ [.c (.int .i64 n)] = intM (l ++ [n]) := by simp [intM]
/-- 'out = append(out, n)' -/
theorem wpInts_push {P : Program} {wr w1 : World} {ops : Array Oper} {rest : List Oper} {o : Oper} {act : Act} {Q : Exit → Act → World → Prop} (hgd : o.guard = none) (s x : Operand) (t : TypeId)
    (ho : o.op = .call { callee := .builtin .append, args := #[s, x], argTypes := #[t, t] })
    (e : TypeId) (z : Value) (ht : P.underlying t = some (.slice e)) (hinfo : (P.info? e).map (fun i => (i.zero, i.size, i.bytes)) = some (some z, 1, 8)) (hzs : z.cells.size = 1)
    (lo : Nat) (a : Option Addr) (cap : Nat) (xs : List Int) (hs : act.eval s = .slice a xs.length cap) (hrow : (M.sl a cap 1 e (intM xs)).Mine wr lo) (hlo : lo ≤ wr.heap.size) (hb : Below wr.heap.size wr w1)
    (n : Int) (hx : act.eval x = .slice (some ⟨w1.heap.size, 0, none⟩) 1 1) (hB : xs.length ≤ 1000000000)
    (k : ∀ a' cap' w', (M.sl a' cap' 1 e (intM (xs ++ [n]))).Mine w' lo → Below lo w1 w' → w1.heap.size ≤ w'.heap.size →
      wpList P ops Q rest (act.put o.dst (.slice a' (xs ++ [n]).length cap')) w') : wpList P ops Q (o :: rest) act (w1.alloc (.cells #[.int .i64 n] e)) := by
  refine wpList_push hgd s x t ho e z 1 8 ht hinfo hzs (by decide) lo a cap (intM xs) (by rw [intM_length]; exact hs) hrow hlo hb #[.int .i64 n] (.c (.int .i64 n)) rfl rfl wr.heap.size (M.Mine.c rfl) (Nat.le_refl _) hx (by rw [intM_length]; unfold maxLen; omega) (by rw [intM_length]; omega) ?_
  intro a' cap' w' h1 h2 h3 _
  rw [intM_snoc] at h1
  rw [intM_length]
  have := k a' cap' w' h1 h2 h3
  simpa using this

def noUse (l : List Int) : List Int := l.filter fun x => decide (¬ kindS x = 3)
theorem noUse_length (l : List Int) : (noUse l).length ≤ l.length := List.length_filter_le ..
theorem noUse_take (l : List Int) (k : Nat) : (noUse (l.take k)).length ≤ k := Nat.le_trans (noUse_length _) (by simp; omega)
theorem noUse_yes {l : List Int} {k : Nat} {x : Int} (hx : l[k]? = some x) (h : ¬ kindS x = 3) : noUse (l.take (k + 1)) = noUse (l.take k) ++ [x] := by
  rw [take_snoc hx, noUse, noUse, List.filter_append]; simp [h]
theorem noUse_no {l : List Int} {k : Nat} {x : Int} (hx : l[k]? = some x) (h : kindS x = 3) : noUse (l.take (k + 1)) = noUse (l.take k) := by
  rw [take_snoc hx, noUse, noUse, List.filter_append]; simp [h]
def woUse (l : List Int) : List Int := if ssB l = true then noUse l else l
theorem woUse_length (l : List Int) : (woUse l).length ≤ l.length := by unfold woUse; split; exact noUse_length l; exact Nat.le_refl _


end Go.Proofs.YtigmgfinjapchaaDoor

/-
  Walks: WithScope. No condition.
-/
set_option linter.unusedVariables false
set_option linter.unusedSimpArgs false
set_option maxRecDepth 100000
namespace Go.Proofs.YtigmgfinjapchaaDoor
open Go.RowKit

def putStep (n : Int) (st : List Int × Bool) (x : Int) : List Int × Bool :=
  if st.2 = false ∧ n ≤ x then ((if n < x then st.1 ++ [n] else st.1) ++ [x], true) else (st.1 ++ [x], st.2)
def putSt (n : Int) (l : List Int) : List Int × Bool := l.foldl (putStep n) ([], false)
theorem putSt_succ {n : Int} {l : List Int} {k : Nat} {x : Int} (hx : l[k]? = some x) : putSt n (l.take (k + 1)) = putStep n (putSt n (l.take k)) x := by
  rw [take_snoc hx, putSt, List.foldl_append]; rfl
theorem putStep_length (n : Int) (st : List Int × Bool) (x : Int) : (putStep n st x).1.length ≤ st.1.length + 2 := by
  unfold putStep; split
  · simp only [List.length_append]; split <;> simp <;> omega
  · simp
theorem putSt_take (n : Int) (l : List Int) (k : Nat) (hk : k ≤ l.length) : (putSt n (l.take k)).1.length ≤ 2 * k := by
  induction k with
  | zero => simp [putSt]
  | succ k ih => rw [putSt_succ (List.getElem?_eq_getElem (by omega : k < l.length))]; have := putStep_length n (putSt n (l.take k)) (l[k]'(by omega)); have := ih (by omega); omega
def put (n : Int) (l : List Int) : List Int := if (putSt n l).2 = true then (putSt n l).1 else (putSt n l).1 ++ [n]
theorem put_length (n : Int) (l : List Int) : (put n l).length ≤ 2 * l.length + 1 := by
  have := putSt_take n l l.length (Nat.le_refl _)
  rw [List.take_length] at this
  unfold put; split
  · omega
  · simp; omega
def withS (l : List Int) (n : Int) : List Int := if ssB l = true ∧ ¬ kindS n = 0 then put n l else l
theorem withS_length (l : List Int) (n : Int) : (withS l n).length ≤ 2 * l.length + 1 := by
  unfold withS; split
  · exact put_length n l
  · omega

end Go.Proofs.YtigmgfinjapchaaDoor

/-
  Walks: WithScope, FlippedScope. No condition.
-/
set_option linter.unusedVariables false
set_option linter.unusedSimpArgs false
set_option maxRecDepth 100000
namespace Go.Proofs.YtigmgfinjapchaaDoor
open Go.RowKit

theorem RetInts.mono {l : List Int} {w w1 : World} {e : Ending} {w' : World} (h : RetInts l w1 e w') (hb : Below w.heap.size w w1) : RetInts l w e w' := by
  obtain ⟨a, c, rfl, hm, hb1⟩ := h
  exact ⟨a, c, rfl, hm.mono hb.size, hb.trans (hb1.mono hb.size)⟩

def dropN (n : Int) (l : List Int) : List Int := l.filter fun x => decide (¬ x = n)
theorem dropN_length (n : Int) (l : List Int) : (dropN n l).length ≤ l.length := List.length_filter_le ..
theorem dropN_take (n : Int) (l : List Int) (k : Nat) : (dropN n (l.take k)).length ≤ k := Nat.le_trans (dropN_length _ _) (by simp; omega)
theorem dropN_yes {n : Int} {l : List Int} {k : Nat} {x : Int} (hx : l[k]? = some x) (h : ¬ x = n) : dropN n (l.take (k + 1)) = dropN n (l.take k) ++ [x] := by
  rw [take_snoc hx, dropN, dropN, List.filter_append]; simp [h]
theorem dropN_no {n : Int} {l : List Int} {k : Nat} {x : Int} (hx : l[k]? = some x) (h : x = n) : dropN n (l.take (k + 1)) = dropN n (l.take k) := by
  rw [take_snoc hx, dropN, dropN, List.filter_append]; simp [h]
def flipL (l : List Int) (n : Int) : List Int := if hasB l n = true then dropN n l else put n l
def flipS (l : List Int) (n : Int) : List Int := if ssB l = true ∧ ¬ kindS n = 0 then flipL l n else l
theorem flipL_length (l : List Int) (n : Int) : (flipL l n).length ≤ 2 * l.length + 1 := by
  unfold flipL; split
  · have := dropN_length n l; omega
  · exact put_length n l
theorem flipS_length (l : List Int) (n : Int) : (flipS l n).length ≤ 2 * l.length + 1 := by
  unfold flipS; split
  · exact flipL_length l n
  · omega

end Go.Proofs.YtigmgfinjapchaaDoor

/-
  Walks: the cursor made; sets of scopes drawn. No condition.
-/
set_option linter.unusedVariables false
set_option linter.unusedSimpArgs false
set_option maxRecDepth 100000
namespace Go.Proofs.YtigmgfinjapchaaDoor
open Go.RowKit

def RetCur (a : Option Addr) (cap : Nat) (l : List Int) (w : World) (e : Ending) (w' : World) : Prop :=
  ∃ pb, e = .returned (.pointer (some ⟨pb, 0, none⟩)) ∧ w.heap.size ≤ pb ∧ Cur pb a cap l w' ∧ Below w.heap.size w w'
theorem l01New_calls (a : Option Addr) (cap : Nat) (l : List Int) (w : World) (hin : (M.sl a cap 1 5 (u8M l)).In w) (hu : ∀ z ∈ l, 0 ≤ z ∧ z ≤ 255) (hlen : l.length ≤ 1048576) :
    Calls Tryd.prog 41 #[.slice a l.length cap] w (RetCur a cap l w) := by
  have hl := U8s.len hin
  have HIN := Lib.hid hin; clear hin; have HU := Lib.hid hu; clear hu
  go_enter Tryd.func41, Tryd.ntmps41
  go_wp2_with fail
  go_loop [3, 4] (fun t i => ∃ (k : Nat) (h : Int), k ≤ l.length ∧ i = .int .i64 k ∧ t = .int .i64 h ∧ 0 ≤ h ∧ h ≤ 1073741823) (fun _ i => l.length - (intOf i).toNat)
  case atStart => exact ⟨0, 3220 + l.length, Nat.zero_le _, rfl, rfl, by omega, by omega⟩
  case round =>
    obtain ⟨k, h, hk, rfl, rfl, h0, h1⟩ := hrel
    by_cases hlt : k < l.length
    · by_cases h4 : (k : Int) < 4000
      · obtain ⟨b, off, z, rfl, hz, hc⟩ := U8s.elem HIN.out k hlt
        have hzr := HU.out z (List.mem_of_getElem? hz)
        have hzw : wrap64 z = z := by unfold wrap64; omega
        have HZ := Lib.hid hz; clear hz
        go_wp2_with fail
        go_round
        case rel => exact ⟨k + 1, _, by omega, by go_num, rfl, (and30 _).1, (and30 _).2⟩
        case measure => simp [intOf]; omega
      · have hlt' : (k : Int) < (l.length : Int) := by omega
        go_wp2_with fail
        go_ret
        refine ⟨w.heap.size, rfl, Nat.le_refl _, ⟨0, h, ?_, ?_, ?_, ?_, ?_, Nat.zero_le _, HIN.out.below (by (repeat (first | with_reducible assumption | with_reducible exact Below.refl _ _ | with_reducible refine Below.drew ?_ | with_reducible refine belowDrewN ?_ _ | ((with_reducible refine Below.setCell ?_ ?_ _); rotate_left; focus (first | omega | (simp; done) | (simp; omega))) | ((with_reducible refine Below.alloc ?_ ?_ _); rotate_left; focus (first | omega | (simp; done) | (simp; omega)))))), ?_, HU.out⟩, by (repeat (first | with_reducible assumption | with_reducible exact Below.refl _ _ | with_reducible refine Below.drew ?_ | with_reducible refine belowDrewN ?_ _ | ((with_reducible refine Below.setCell ?_ ?_ _); rotate_left; focus (first | omega | (simp; done) | (simp; omega))) | ((with_reducible refine Below.alloc ?_ ?_ _); rotate_left; focus (first | omega | (simp; done) | (simp; omega)))))⟩
        · simp [go_sem]
        · simp [go_sem]
        · simp [go_sem]
        · simp [go_sem]
        · simp [go_sem]
        · intro hpos b hb
          obtain ⟨b', off', z, rfl, _, hc⟩ := U8s.elem HIN.out 0 hpos
          simp [addrBlocks] at hb
          subst hb
          exact World.block_lt_of_cell? w _ hc
    · have hlt' : ¬ (k : Int) < (l.length : Int) := by omega
      go_wp2_with fail
      go_ret
      refine ⟨w.heap.size, rfl, Nat.le_refl _, ⟨0, h, ?_, ?_, ?_, ?_, ?_, Nat.zero_le _, HIN.out.below (by (repeat (first | with_reducible assumption | with_reducible exact Below.refl _ _ | with_reducible refine Below.drew ?_ | with_reducible refine belowDrewN ?_ _ | ((with_reducible refine Below.setCell ?_ ?_ _); rotate_left; focus (first | omega | (simp; done) | (simp; omega))) | ((with_reducible refine Below.alloc ?_ ?_ _); rotate_left; focus (first | omega | (simp; done) | (simp; omega)))))), ?_, HU.out⟩, by (repeat (first | with_reducible assumption | with_reducible exact Below.refl _ _ | with_reducible refine Below.drew ?_ | with_reducible refine belowDrewN ?_ _ | ((with_reducible refine Below.setCell ?_ ?_ _); rotate_left; focus (first | omega | (simp; done) | (simp; omega))) | ((with_reducible refine Below.alloc ?_ ?_ _); rotate_left; focus (first | omega | (simp; done) | (simp; omega)))))⟩
      · simp [go_sem]
      · simp [go_sem]
      · simp [go_sem]
      · simp [go_sem]
      · simp [go_sem]
      · intro hpos b hb
        obtain ⟨b', off', z, rfl, _, hc⟩ := U8s.elem HIN.out 0 hpos
        simp [addrBlocks] at hb
        subst hb
        exact World.block_lt_of_cell? w _ hc
theorem putSt_mem (n : Int) : ∀ (l : List Int) (st : List Int × Bool), ∀ z ∈ (l.foldl (putStep n) st).1, z = n ∨ z ∈ l ∨ z ∈ st.1
  | [], st => fun z hz => .inr (.inr hz)
  | y :: r, st => fun z hz => by
    rcases putSt_mem n r (putStep n st y) z hz with h | h | h
    · exact .inl h
    · exact .inr (.inl (List.mem_cons_of_mem _ h))
    · unfold putStep at h
      split at h
      · simp only [List.mem_append, List.mem_singleton] at h
        rcases h with h | h
        · split at h
          · rcases List.mem_append.1 h with h | h
            · exact .inr (.inr h)
            · simp at h; exact .inl h
          · exact .inr (.inr h)
        · subst h; exact .inr (.inl (List.mem_cons_self ..))
      · rcases List.mem_append.1 h with h | h
        · exact .inr (.inr h)
        · simp at h; subst h; exact .inr (.inl (List.mem_cons_self ..))
theorem put_mem {n : Int} {l : List Int} {z : Int} (h : z ∈ put n l) : z = n ∨ z ∈ l := by
  unfold put at h
  split at h
  · rcases putSt_mem n l ([], false) z h with h | h | h
    · exact .inl h
    · exact .inr h
    · cases h
  · rcases List.mem_append.1 h with h | h
    · rcases putSt_mem n l ([], false) z h with h | h | h
      · exact .inl h
      · exact .inr h
      · cases h
    · simp at h; exact .inl h
def Small (L : List Int) : Prop := ∀ z ∈ L, -1 ≤ z ∧ z ≤ 100000
theorem Small.nil : Small [] := fun z h => by cases h
theorem Small.put {L : List Int} (h : Small L) {x : Int} (h0 : 0 ≤ x) (h1 : x ≤ 8) : Small (put (1 + x) L) := fun z hz => by
  rcases put_mem hz with rfl | hz
  · omega
  · exact h z hz
/-- a list of numbers drawn -/
def RetSet (m : Nat) (pb : Nat) (a : Option Addr) (cap : Nat) (l : List Int) (w : World) (e : Ending) (w' : World) : Prop :=
  ∃ (L : List Int) (a' : Option Addr) (cap' : Nat), e = .returned (.slice a' L.length cap') ∧ L.length ≤ m ∧ Small L ∧ (M.sl a' cap' 1 3 (intM L)).Mine w' w.heap.size ∧ Cur pb a cap l w' ∧ OnlyIn pb (pb + 1) w w'
/-- a list of numbers and a number drawn -/
def RetSetN (w : World) (e : Ending) (w' : World) : Prop :=
  ∃ (L : List Int) (a' : Option Addr) (cap' : Nat) (n : Int), e = .returned (.tuple #[.slice a' L.length cap', .int .i64 n]) ∧ L.length ≤ 8 ∧ 0 ≤ n ∧ n ≤ 9 ∧ (M.sl a' cap' 1 3 (intM L)).Mine w' w.heap.size ∧ Below w.heap.size w w'
end Go.Proofs.YtigmgfinjapchaaDoor

/-
  Walks: texts drawn. No condition.
-/
set_option linter.unusedVariables false
set_option linter.unusedSimpArgs false
set_option maxRecDepth 100000
namespace Go.Proofs.YtigmgfinjapchaaDoor
open Go.RowKit

/-- a short text drawn -/
def DrawnT (pb : Nat) (a : Option Addr) (cap : Nat) (l : List Int) (w : World) (e : Ending) (w' : World) : Prop :=
  ∃ x : ByteArray, e = .returned (.string x) ∧ x.size ≤ 100 ∧ Cur pb a cap l w' ∧ OnlyIn pb (pb + 1) w w'
def Texts (cs : Array Value) : Prop := ∀ v ∈ cs.toList, ∃ s : ByteArray, v = .string s ∧ s.size ≤ 100
theorem l01Pick_lit (cs : Array Value) (n : Nat) (pb : Nat) (a : Option Addr) (cap : Nat) (l : List Int) (w : World) (hc : Cur pb a cap l w) (hn : cs.size = n) (h0 : 0 < n) (h1 : n ≤ 1000) (ht : Texts cs) :
    Calls Tryd.prog 43 #[.pointer (some ⟨pb, 0, none⟩), .slice (some ⟨w.heap.size, 0, none⟩) n n] (w.alloc (.cells cs 9)) (DrawnT pb a cap l w) := by
  have hp := hc.lt
  have hcell : ∀ k, k < n → ∃ s : ByteArray, (w.alloc (.cells cs 9)).cell? ⟨w.heap.size, k, none⟩ = some (.string s) ∧ s.size ≤ 100 := by
    intro k hk
    obtain ⟨s, hs, hz⟩ := ht cs[k] (by simp)
    refine ⟨s, ?_, hz⟩
    rw [World.cell?_alloc_new]
    rw [← hs]
    simp
  have HC := Lib.hid hc; clear hc; have HCELL := Lib.hid hcell; clear hcell; have HT := Lib.hid ht; clear ht
  go_enter Tryd.func43, Tryd.ntmps43
  go_wp2_with fail
  refine (l01Below_calls n pb a cap l _ (HC.out.below (by (repeat (first | with_reducible assumption | with_reducible exact Below.refl _ _ | with_reducible refine Below.drew ?_ | with_reducible refine belowDrewN ?_ _ | ((with_reducible refine Below.setCell ?_ ?_ _); rotate_left; focus (first | omega | (simp; done) | (simp; omega))) | ((with_reducible refine Below.alloc ?_ ?_ _); rotate_left; focus (first | omega | (simp; done) | (simp; omega))))))) (by omega) (by omega)).mono ?_
  rintro e w1 ⟨x, rfl, hx0, hx1, hc1, ho1⟩
  obtain ⟨k, rfl⟩ := Int.eq_ofNat_of_zero_le hx0
  obtain ⟨s, hs, hz⟩ := HCELL.out k (by omega)
  have hkl : k < n := by omega
  have hs1 : w1.cell? ⟨w.heap.size, k, none⟩ = some (.string s) := (World.cell?_of_block (ho1.block w.heap.size (by simp) (.inr (by omega)))).trans hs
  have hoo : OnlyIn pb (pb + 1) w w1 := ((OnlyIn.refl _ _ _).new _).trans ho1
  have HC1 := Lib.hid hc1; clear hc1; have HO1 := Lib.hid ho1; clear ho1; have HOO := Lib.hid hoo; clear hoo; have HS := Lib.hid hs; clear hs
  go_wp2_with fail
  go_ret
  exact ⟨s, rfl, hz, HC1.out, HOO.out⟩
/-- a number of the machine drawn -/
def DrawnN (m : Int) (pb : Nat) (a : Option Addr) (cap : Nat) (l : List Int) (w : World) (e : Ending) (w' : World) : Prop :=
  ∃ x : Int, e = .returned (.int .i64 x) ∧ I64 x ∧ Cur pb a cap l w' ∧ OnlyIn pb (pb + 1) w w'
def Nums (cs : Array Value) : Prop := ∀ v ∈ cs.toList, ∃ s : Int, v = .int .i64 s ∧ I64 s
theorem l01Int_lit (cs : Array Value) (n : Nat) (pb : Nat) (a : Option Addr) (cap : Nat) (l : List Int) (w : World) (hc : Cur pb a cap l w) (hn : cs.size = n) (h0 : 0 < n) (h1 : n ≤ 1000) (ht : Nums cs) :
    Calls Tryd.prog 74 #[.pointer (some ⟨pb, 0, none⟩), .slice (some ⟨w.heap.size, 0, none⟩) n n] (w.alloc (.cells cs 3)) (DrawnN 0 pb a cap l w) := by
  have hp := hc.lt
  have hcell : ∀ k, k < n → ∃ s : Int, (w.alloc (.cells cs 3)).cell? ⟨w.heap.size, k, none⟩ = some (.int .i64 s) ∧ I64 s := by
    intro k hk
    obtain ⟨s, hs, hz⟩ := ht cs[k] (by simp)
    refine ⟨s, ?_, hz⟩
    rw [World.cell?_alloc_new]
    rw [← hs]
    simp
  have HC := Lib.hid hc; clear hc; have HCELL := Lib.hid hcell; clear hcell; have HT := Lib.hid ht; clear ht
  go_enter Tryd.func74, Tryd.ntmps74
  go_wp2_with fail
  refine (l01Below_calls n pb a cap l _ (HC.out.below (by (repeat (first | with_reducible assumption | with_reducible exact Below.refl _ _ | with_reducible refine Below.drew ?_ | with_reducible refine belowDrewN ?_ _ | ((with_reducible refine Below.setCell ?_ ?_ _); rotate_left; focus (first | omega | (simp; done) | (simp; omega))) | ((with_reducible refine Below.alloc ?_ ?_ _); rotate_left; focus (first | omega | (simp; done) | (simp; omega))))))) (by omega) (by omega)).mono ?_
  rintro e w1 ⟨x, rfl, hx0, hx1, hc1, ho1⟩
  obtain ⟨k, rfl⟩ := Int.eq_ofNat_of_zero_le hx0
  obtain ⟨s, hs, hz⟩ := HCELL.out k (by omega)
  have hkl : k < n := by omega
  have hs1 : w1.cell? ⟨w.heap.size, k, none⟩ = some (.int .i64 s) := (World.cell?_of_block (ho1.block w.heap.size (by simp) (.inr (by omega)))).trans hs
  have hoo : OnlyIn pb (pb + 1) w w1 := ((OnlyIn.refl _ _ _).new _).trans ho1
  have HC1 := Lib.hid hc1; clear hc1; have HO1 := Lib.hid ho1; clear ho1; have HOO := Lib.hid hoo; clear hoo; have HS := Lib.hid hs; clear hs; have HZ := Lib.hid hz; clear hz
  go_wp2_with fail
  go_ret
  exact ⟨s, rfl, HZ.out, HC1.out, HOO.out⟩
end Go.Proofs.YtigmgfinjapchaaDoor

/-
  Walks: NumberDatum, StringDatum, SymbolDatum. No condition.
-/
set_option linter.unusedVariables false
set_option linter.unusedSimpArgs false
set_option maxRecDepth 100000
namespace Go.Proofs.YtigmgfinjapchaaDoor
open Go.RowKit

theorem isDatB_leaf (k n : Int) (s : ByteArray) : isDatB k n s [] = nodeB k n s 0 := by
  cases hq : nodeB k n s 0 with
  | true => exact isDatB_yes ⟨by simp [Dat.countL], by simp [Dat.depthL], by rw [Dat.ok_mk]; simpa using hq⟩
  | false => exact isDatB_no fun h => by have := (Dat.ok_mk.1 h.2.2).1; simp [hq] at this
def onlyN (b : Bool) (n : Int) : Int := if b = true then n else 0
def onlyS (b : Bool) (s : ByteArray) : ByteArray := if b = true then s else ⟨#[]⟩
@[simp] theorem onlyN_t (n : Int) : onlyN true n = n := rfl
@[simp] theorem onlyN_f (n : Int) : onlyN false n = 0 := rfl
@[simp] theorem onlyS_t (s : ByteArray) : onlyS true s = s := rfl
@[simp] theorem onlyS_f (s : ByteArray) : onlyS false s = ⟨#[]⟩ := rfl

def numB (n : Int) : Bool := inB n (-999999999) 999999999
theorem nodeB_num (n : Int) : nodeB 2 n ⟨#[]⟩ 0 = numB n := by unfold nodeB numB; simp
theorem nodeB_str (s : ByteArray) : nodeB 4 0 s 0 = strB s := by unfold nodeB; simp
theorem nodeB_sym (s : ByteArray) : nodeB 1 0 s 0 = isSymB s := by unfold nodeB; simp
theorem sStringDatum_calls (s : ByteArray) (w : World) (hs : s.size ≤ 9223372036854775807) : Calls Tryd.prog 62 #[.string s] w (RetDat 43 (.mk (onlyN (strB s) 4) 0 (onlyS (strB s) s) []) w) := by
  go_enter Tryd.func62, Tryd.ntmps62
  go_wp2_with fail
  refine (l1String_calls s _ hs).mono ?_
  rintro e w1 ⟨rfl, rfl⟩
  cases hq : strB s with
  | true =>
    go_wp2_with fail
    refine bodyPost_ret (v := .agg #[.int .i64 4, .int .i64 0, .string s, .slice none 0 0]) (by simp [results, Tryd.results62, go_sem]) rfl ?_
    exact ⟨none, 0, [], by simp [hq], rfl, M.Mine.nil _ _ _ _ (by decide), by (repeat (first | with_reducible assumption | with_reducible exact Below.refl _ _ | with_reducible refine Below.drew ?_ | with_reducible refine belowDrewN ?_ _ | ((with_reducible refine Below.setCell ?_ ?_ _); rotate_left; focus (first | omega | (simp; done) | (simp; omega))) | ((with_reducible refine Below.alloc ?_ ?_ _); rotate_left; focus (first | omega | (simp; done) | (simp; omega)))))⟩
  | false =>
    go_wp2_with fail
    refine bodyPost_ret (v := .agg #[.int .i64 0, .int .i64 0, .string ⟨#[]⟩, .slice none 0 0]) (by simp [results, Tryd.results62, go_sem]) rfl ?_
    exact ⟨none, 0, [], by simp [hq], rfl, M.Mine.nil _ _ _ _ (by decide), by (repeat (first | with_reducible assumption | with_reducible exact Below.refl _ _ | with_reducible refine Below.drew ?_ | with_reducible refine belowDrewN ?_ _ | ((with_reducible refine Below.setCell ?_ ?_ _); rotate_left; focus (first | omega | (simp; done) | (simp; omega))) | ((with_reducible refine Below.alloc ?_ ?_ _); rotate_left; focus (first | omega | (simp; done) | (simp; omega)))))⟩
theorem sSymbolDatum_calls (s : ByteArray) (w : World) (hs : s.size ≤ 9223372036854775807) : Calls Tryd.prog 60 #[.string s] w (RetDat 43 (.mk (onlyN (isSymB s) 1) 0 (onlyS (isSymB s) s) []) w) := by
  go_enter Tryd.func60, Tryd.ntmps60
  go_wp2_with fail
  refine (sIsSymbol_calls s _ hs).mono ?_
  rintro e w1 ⟨rfl, rfl⟩
  cases hq : isSymB s with
  | true =>
    go_wp2_with fail
    refine bodyPost_ret (v := .agg #[.int .i64 1, .int .i64 0, .string s, .slice none 0 0]) (by simp [results, Tryd.results60, go_sem]) rfl ?_
    exact ⟨none, 0, [], by simp [hq], rfl, M.Mine.nil _ _ _ _ (by decide), by (repeat (first | with_reducible assumption | with_reducible exact Below.refl _ _ | with_reducible refine Below.drew ?_ | with_reducible refine belowDrewN ?_ _ | ((with_reducible refine Below.setCell ?_ ?_ _); rotate_left; focus (first | omega | (simp; done) | (simp; omega))) | ((with_reducible refine Below.alloc ?_ ?_ _); rotate_left; focus (first | omega | (simp; done) | (simp; omega)))))⟩
  | false =>
    go_wp2_with fail
    refine bodyPost_ret (v := .agg #[.int .i64 0, .int .i64 0, .string ⟨#[]⟩, .slice none 0 0]) (by simp [results, Tryd.results60, go_sem]) rfl ?_
    exact ⟨none, 0, [], by simp [hq], rfl, M.Mine.nil _ _ _ _ (by decide), by (repeat (first | with_reducible assumption | with_reducible exact Below.refl _ _ | with_reducible refine Below.drew ?_ | with_reducible refine belowDrewN ?_ _ | ((with_reducible refine Below.setCell ?_ ?_ _); rotate_left; focus (first | omega | (simp; done) | (simp; omega))) | ((with_reducible refine Below.alloc ?_ ?_ _); rotate_left; focus (first | omega | (simp; done) | (simp; omega)))))⟩
theorem sNumberDatum_calls (n : Int) (w : World) : Calls Tryd.prog 73 #[.int .i64 n] w (RetDat 43 (.mk (onlyN (numB n) 2) (onlyN (numB n) n) ⟨#[]⟩ []) w) := by
  have hnb : numB n = inB n (-999999999) 999999999 := rfl
  go_enter Tryd.func73, Tryd.ntmps73
  go_wp2_with fail
  refine (l1In_calls n (-999999999) 999999999 _).mono ?_
  rintro e w1 ⟨rfl, rfl⟩
  rw [← hnb]
  clear hnb
  cases hq : numB n with
  | true =>
    go_wp2_with fail
    refine bodyPost_ret (v := .agg #[.int .i64 2, .int .i64 n, .string ⟨#[]⟩, .slice none 0 0]) (by simp [results, Tryd.results73, go_sem]) rfl ?_
    exact ⟨none, 0, [], by simp [hq], rfl, M.Mine.nil _ _ _ _ (by decide), by (repeat (first | with_reducible assumption | with_reducible exact Below.refl _ _ | with_reducible refine Below.drew ?_ | with_reducible refine belowDrewN ?_ _ | ((with_reducible refine Below.setCell ?_ ?_ _); rotate_left; focus (first | omega | (simp; done) | (simp; omega))) | ((with_reducible refine Below.alloc ?_ ?_ _); rotate_left; focus (first | omega | (simp; done) | (simp; omega)))))⟩
  | false =>
    go_wp2_with fail
    refine bodyPost_ret (v := .agg #[.int .i64 0, .int .i64 0, .string ⟨#[]⟩, .slice none 0 0]) (by simp [results, Tryd.results73, go_sem]) rfl ?_
    exact ⟨none, 0, [], by simp [hq], rfl, M.Mine.nil _ _ _ _ (by decide), by (repeat (first | with_reducible assumption | with_reducible exact Below.refl _ _ | with_reducible refine Below.drew ?_ | with_reducible refine belowDrewN ?_ _ | ((with_reducible refine Below.setCell ?_ ?_ _); rotate_left; focus (first | omega | (simp; done) | (simp; omega))) | ((with_reducible refine Below.alloc ?_ ?_ _); rotate_left; focus (first | omega | (simp; done) | (simp; omega)))))⟩
end Go.Proofs.YtigmgfinjapchaaDoor

/-
  Walks: the law's own measure of data; data compared. No condition.
-/
set_option linter.unusedVariables false
set_option linter.unusedSimpArgs false
set_option maxRecDepth 100000
namespace Go.Proofs.YtigmgfinjapchaaDoor
open Go.RowKit

/-- A measure that counts down: what it hands back is below what it was handed by at least the weight, or it is -1. -/
def SzPost (wt : Nat) (left : Int) (w : World) (e : Ending) (w' : World) : Prop :=
  ∃ r : Int, e = .returned (.int .i64 r) ∧ -1 ≤ r ∧ r ≤ left ∧ (0 ≤ r → (wt : Int) + r ≤ left) ∧ Below w.heap.size w w'

end Go.Proofs.YtigmgfinjapchaaDoor

/-
  Walks: the law's own copies of data, and their comparison. No condition.
-/
set_option linter.unusedVariables false
set_option linter.unusedSimpArgs false
set_option maxRecDepth 100000
namespace Go.Proofs.YtigmgfinjapchaaDoor
open Go.RowKit

theorem infoDat : (Tryd.prog.info? 43).map (fun i => (i.zero, i.size, i.bytes)) = some (some (.agg #[.int .i64 0, .int .i64 0, .string ⟨#[]⟩, .slice none 0 0]), 4, 56) := by kernel_rfl
/-- the zero datum -/
def zeroM (e : TypeId) : M := .ag [.c (.int .i64 0), .c (.int .i64 0), .c (.string ⟨#[]⟩), .sl none 0 4 e []]
theorem zeroM_own (e : TypeId) (w : World) (lo : Nat) : (zeroM e).Own w lo := ⟨rfl, rfl, rfl, (M.Mine.nil w lo 4 e (by decide)).own, trivial⟩
def zeroD : Dat := .mk 0 0 ⟨#[]⟩ []
theorem zero_is (e : TypeId) : zeroD.Is e (zeroM e) := ⟨none, 0, [], rfl, rfl⟩
theorem Dat.IsL.append {e : TypeId} : ∀ {xs ys : List Dat} {ms ns : List M}, Dat.IsL e xs ms → Dat.IsL e ys ns → Dat.IsL e (xs ++ ys) (ms ++ ns)
  | [], _, ms, _, h, h2 => by simp [Dat.IsL] at h; subst h; simpa using h2
  | x :: xs, ys, ms, ns, h, h2 => by
    obtain ⟨m, r, rfl, h1, h3⟩ := h
    exact ⟨m, r ++ ns, rfl, h1, Dat.IsL.append h3 h2⟩
theorem Dat.IsL.set {e : TypeId} : ∀ {xs : List Dat} {ms : List M} {d : Dat} {m : M} (k : Nat), Dat.IsL e xs ms → d.Is e m → Dat.IsL e (xs.set k d) (ms.set k m)
  | [], ms, d, m, k, h, _ => by simp [Dat.IsL] at h; subst h; simp [Dat.IsL]
  | x :: xs, ms, d, m, 0, h, hd => by obtain ⟨y, r, rfl, h1, h3⟩ := h; exact ⟨m, r, rfl, hd, h3⟩
  | x :: xs, ms, d, m, k + 1, h, hd => by obtain ⟨y, r, rfl, h1, h3⟩ := h; exact ⟨y, r.set k m, rfl, h1, Dat.IsL.set k h3 hd⟩
theorem Dat.IsL.replicate {e : TypeId} {d : Dat} {m : M} (h : d.Is e m) : ∀ n, Dat.IsL e (List.replicate n d) (List.replicate n m)
  | 0 => rfl
  | n + 1 => ⟨m, List.replicate n m, rfl, h, Dat.IsL.replicate h n⟩

end Go.Proofs.YtigmgfinjapchaaDoor

/-
  Walks: the law's comparison of data that are one. No condition.
-/
set_option linter.unusedVariables false
set_option linter.unusedSimpArgs false
set_option maxRecDepth 100000
namespace Go.Proofs.YtigmgfinjapchaaDoor
open Go.RowKit

/-- two slices of the same data: element k of both -/
theorem Dat.elem2 {w : World} {a : Option Addr} {cap : Nat} {e : TypeId} {ds : List Dat} {ms : List M} (h : (M.sl a cap 4 e ms).In w) (hi : Dat.IsL e ds ms)
    {a' : Option Addr} {cap' : Nat} {e' : TypeId} {ms' : List M} (h' : (M.sl a' cap' 4 e' ms').In w) (hi' : Dat.IsL e' ds ms') (k : Nat) (hk : k < ms.length) :
    ∃ b off b' off' k1 n1 s1 ds1 a1 cap1 ms1 a1' cap1' ms1', a = some ⟨b, off, none⟩ ∧ a' = some ⟨b', off', none⟩ ∧ ds[k]? = some (.mk k1 n1 s1 ds1) ∧ Dat.IsL e ds1 ms1 ∧ Dat.IsL e' ds1 ms1' ∧ (M.sl a1 cap1 4 e ms1).In w ∧ (M.sl a1' cap1' 4 e' ms1').In w ∧
      w.cell? ⟨b, off + k * 4, none⟩ = some (.int .i64 k1) ∧ w.cell? ⟨b, off + k * 4 + 1, none⟩ = some (.int .i64 n1) ∧
      w.cell? ⟨b, off + k * 4 + 2, none⟩ = some (.string s1) ∧ w.cell? ⟨b, off + k * 4 + 3, none⟩ = some (.slice a1 ms1.length cap1) ∧
      w.cell? ⟨b', off' + k * 4, none⟩ = some (.int .i64 k1) ∧ w.cell? ⟨b', off' + k * 4 + 1, none⟩ = some (.int .i64 n1) ∧
      w.cell? ⟨b', off' + k * 4 + 2, none⟩ = some (.string s1) ∧ w.cell? ⟨b', off' + k * 4 + 3, none⟩ = some (.slice a1' ms1'.length cap1') := by
  obtain ⟨b, off, k1, n1, s1, ds1, a1, cap1, ms1, ha, hd, hi1, hin1, c0, c1, c2, c3⟩ := Dat.elem h hi k hk
  obtain ⟨b', off', k1', n1', s1', ds1', a1', cap1', ms1', ha', hd', hi1', hin1', c0', c1', c2', c3'⟩ := Dat.elem h' hi' k (by rw [hi'.length, ← hi.length]; exact hk)
  rw [hd] at hd'
  simp only [Option.some.injEq, Dat.mk.injEq] at hd'
  obtain ⟨rfl, rfl, rfl, rfl⟩ := hd'
  exact ⟨b, off, b', off', k1, n1, s1, ds1, a1, cap1, ms1, a1', cap1', ms1', ha, ha', hd, hi1, hi1', hin1, hin1', c0, c1, c2, c3, c0', c1', c2', c3'⟩

def EqDs (ds : List Dat) : Prop := ∀ (a : Option Addr) (cap : Nat) (ms : List M) (a' : Option Addr) (cap' : Nat) (ms' : List M) (w : World), Dat.IsL 43 ds ms → (M.sl a cap 4 43 ms).In w → Dat.IsL 43 ds ms' → (M.sl a' cap' 4 43 ms').In w →
    Calls Tryd.prog 13 #[.slice a ms.length cap, .slice a' ms'.length cap'] w (Ret (.bool true) w)

theorem eqDatum_of (ds : List Dat) (H : EqDs ds) (k n : Int) (s : ByteArray) (a : Option Addr) (cap : Nat) (ms : List M) (a' : Option Addr) (cap' : Nat) (ms' : List M) (w : World)
    (hi : Dat.IsL 43 ds ms) (hin : (M.sl a cap 4 43 ms).In w) (hi' : Dat.IsL 43 ds ms') (hin' : (M.sl a' cap' 4 43 ms').In w) :
    Calls Tryd.prog 35 #[.agg #[.int .i64 k, .int .i64 n, .string s, .slice a ms.length cap], .agg #[.int .i64 k, .int .i64 n, .string s, .slice a' ms'.length cap']] w (Ret (.bool true) w) := by
  have HI := Lib.hid hi; clear hi; have HIN := Lib.hid hin; clear hin; have HI' := Lib.hid hi'; clear hi'; have HIN' := Lib.hid hin'; clear hin'; have H_ := Lib.hid H; clear H
  go_enter Tryd.func35, Tryd.ntmps35
  go_wp2_with fail
  refine (H_.out a cap ms a' cap' ms' _ HI.out (HIN.out.below (by (repeat (first | with_reducible assumption | with_reducible exact Below.refl _ _ | with_reducible refine Below.drew ?_ | with_reducible refine belowDrewN ?_ _ | ((with_reducible refine Below.setCell ?_ ?_ _); rotate_left; focus (first | omega | (simp; done) | (simp; omega))) | ((with_reducible refine Below.alloc ?_ ?_ _); rotate_left; focus (first | omega | (simp; done) | (simp; omega))))))) HI'.out (HIN'.out.below (by (repeat (first | with_reducible assumption | with_reducible exact Below.refl _ _ | with_reducible refine Below.drew ?_ | with_reducible refine belowDrewN ?_ _ | ((with_reducible refine Below.setCell ?_ ?_ _); rotate_left; focus (first | omega | (simp; done) | (simp; omega))) | ((with_reducible refine Below.alloc ?_ ?_ _); rotate_left; focus (first | omega | (simp; done) | (simp; omega)))))))).mono ?_
  rintro e w1 ⟨rfl, hb2⟩
  go_wp2_with fail
  go_ret
  exact ⟨rfl, by (repeat (first | with_reducible assumption | with_reducible exact Below.refl _ _ | with_reducible refine Below.drew ?_ | with_reducible refine belowDrewN ?_ _ | ((with_reducible refine Below.setCell ?_ ?_ _); rotate_left; focus (first | omega | (simp; done) | (simp; omega))) | ((with_reducible refine Below.alloc ?_ ?_ _); rotate_left; focus (first | omega | (simp; done) | (simp; omega))) | ((with_reducible refine Below.trans ?_ (Below.mono hb2 ?_)); rotate_left; focus (first | omega | (simp; done) | (simp; omega)))))⟩

theorem eqDatumS_calls : ∀ ds, EqDs ds := by
  refine Dat.inductL fun ds ih => ?_
  intro a cap ms a' cap' ms' w hi hin hi' hin'
  have hln := hi.length
  have hln' := hi'.length
  have hcapm := hin.len
  have hl2 : ms'.length = ms.length := by omega
  rw [hl2]
  have IH := Lib.hid ih; clear ih; have HIN := Lib.hid hin; clear hin; have HI := Lib.hid hi; clear hi; have HIN' := Lib.hid hin'; clear hin'; have HI' := Lib.hid hi'; clear hi'; have HLN := Lib.hid hln; clear hln; have HLN' := Lib.hid hln'; clear hln'; have HL2 := Lib.hid hl2; clear hl2
  go_enter Tryd.func13, Tryd.ntmps13
  go_wp2_with fail
  go_loopw [5] (fun i wr => ∃ k : Nat, k ≤ ms.length ∧ i = .int .i64 k ∧ Below w.heap.size w wr ∧ w.heap.size ≤ wr.heap.size) (fun i _ => ms.length - (intOf i).toNat)
  case atStart => exact ⟨0, Nat.zero_le _, rfl, Below.refl _ _, Nat.le_refl _⟩
  case round =>
    obtain ⟨k', hk, rfl, hb, hsz⟩ := hrel
    by_cases hlt : k' < ms.length
    · obtain ⟨b, off, b', off', k1, n1, s1, ds1, a1, cap1, ms1, a1', cap1', ms1', rfl, rfl, hd, hi1, hi1', hin1, hin1', c0, c1, c2, c3, c0', c1', c2', c3'⟩ := Dat.elem2 (HIN.out.below hb) HI.out (HIN'.out.below hb) HI'.out k' hlt
      have hbl := World.block_lt_of_cell? wr _ c0
      have hbl' := World.block_lt_of_cell? wr _ c0'
      have HI1 := Lib.hid hi1; clear hi1; have HIN1 := Lib.hid hin1; clear hin1; have HI1' := Lib.hid hi1'; clear hi1'; have HIN1' := Lib.hid hin1'; clear hin1'; have HD := Lib.hid hd; clear hd
      go_wp2_with fail
      go_region_held3 (fun w' => w'.cell? ⟨b, off + k' * 4, none⟩ = some (.int .i64 k1) ∧ w'.cell? ⟨b, off + k' * 4 + 1, none⟩ = some (.int .i64 n1) ∧ w'.cell? ⟨b, off + k' * 4 + 2, none⟩ = some (.string s1) ∧ w'.cell? ⟨b, off + k' * 4 + 3, none⟩ = some (.slice a1 ms1.length cap1) ∧ w'.cell? ⟨b', off' + k' * 4, none⟩ = some (.int .i64 k1) ∧ w'.cell? ⟨b', off' + k' * 4 + 1, none⟩ = some (.int .i64 n1) ∧ w'.cell? ⟨b', off' + k' * 4 + 2, none⟩ = some (.string s1) ∧ w'.cell? ⟨b', off' + k' * 4 + 3, none⟩ = some (.slice a1' ms1'.length cap1'))
        (first | exact ⟨c0, c1, c2, c3, c0', c1', c2', c3'⟩ | exact ⟨(hc1 _ _ hbl).trans c0, (hc1 _ _ hbl).trans c1, (hc1 _ _ hbl).trans c2, (hc1 _ _ hbl).trans c3, (hc1 _ _ hbl').trans c0', (hc1 _ _ hbl').trans c1', (hc1 _ _ hbl').trans c2', (hc1 _ _ hbl').trans c3'⟩)
        (first | (go_at_call 35; refine (eqDatum_of ds1 (IH.out k1 n1 s1 ds1 (List.mem_of_getElem? HD.out)) k1 n1 s1 a1 cap1 ms1 a1' cap1' ms1' _ HI1.out (HIN1.out.below (by (repeat (first | with_reducible assumption | with_reducible exact Below.refl _ _ | with_reducible refine Below.drew ?_ | with_reducible refine belowDrewN ?_ _ | ((with_reducible refine Below.setCell ?_ ?_ _); rotate_left; focus (first | omega | (simp; done) | (simp; omega))) | ((with_reducible refine Below.alloc ?_ ?_ _); rotate_left; focus (first | omega | (simp; done) | (simp; omega))))))) HI1'.out (HIN1'.out.below (by (repeat (first | with_reducible assumption | with_reducible exact Below.refl _ _ | with_reducible refine Below.drew ?_ | with_reducible refine belowDrewN ?_ _ | ((with_reducible refine Below.setCell ?_ ?_ _); rotate_left; focus (first | omega | (simp; done) | (simp; omega))) | ((with_reducible refine Below.alloc ?_ ?_ _); rotate_left; focus (first | omega | (simp; done) | (simp; omega)))))))).mono ?_; rintro e w1 ⟨rfl, hb1⟩; obtain ⟨hc1, hf1⟩ := bcell hb1))
      have hz1 := hb1.size
      simp only [World.size_drew] at hz1
      go_wp2_with fail
      go_roundw
      case rel => exact ⟨k' + 1, by omega, by go_num, by (repeat (first | with_reducible assumption | with_reducible exact Below.refl _ _ | with_reducible refine Below.drew ?_ | with_reducible refine belowDrewN ?_ _ | ((with_reducible refine Below.setCell ?_ ?_ _); rotate_left; focus (first | omega | (simp; done) | (simp; omega))) | ((with_reducible refine Below.alloc ?_ ?_ _); rotate_left; focus (first | omega | (simp; done) | (simp; omega))) | ((with_reducible refine Below.trans ?_ (Below.mono hb1 ?_)); rotate_left; focus (first | omega | (simp; done) | (simp; omega))))), by omega⟩
      case measure => simp [intOf]; omega
    · go_wp2
      go_ret
      exact ⟨rfl, hb⟩
end Go.Proofs.YtigmgfinjapchaaDoor

/-
  Single stores into elements of one's own rows; elements whose inner rows have changed. No condition.
-/
set_option linter.unusedVariables false
namespace Go.Proofs.YtigmgfinjapchaaDoor
open Go.RowKit

theorem set_mid {α : Type} (A E B : List α) (j : Nat) (v : α) (hj : j < E.length) : (A ++ E ++ B).set (A.length + j) v = A ++ E.set j v ++ B := by
  rw [List.append_assoc, List.set_append, if_neg (by omega), show A.length + j - A.length = j by omega, List.set_append, if_pos hj, List.append_assoc]

/-- One cell of element k is written. -/
theorem M.Mine.setOne {w : World} {lo g cap sz : Nat} {e : TypeId} {xs : List M} (h : (M.sl (some ⟨g, 0, none⟩) cap sz e xs).Mine w lo) (k : Nat) (hk : k < xs.length) (j : Nat) (hj : j < sz) (m : M) (v : Value)
    (hmc : m.cells = (xs[k]).cells.set j v) (hm : m.Mine w lo) (hbl : m.blocks = (xs[k]).blocks) : (M.sl (some ⟨g, 0, none⟩) cap sz e (xs.set k m)).Mine (w.setCell ⟨g, k * sz + j, none⟩ v) lo := by
  have hd := h.dup
  simp only [M.blocks] at hd
  rw [List.nodup_append] at hd
  obtain ⟨hd1, hd2, hd3⟩ := hd
  have hng : ∀ b ∈ M.blocksL xs, b ≠ g := fun b hb he => hd3 g (by simp [addrBlocks]) b hb he.symm
  have hu := h.own.1.2.2
  have hxk := hu (xs[k]) (List.getElem_mem hk)
  have hset := h.setElem k hk m (by rw [hmc, List.length_set]; exact hxk) hm fun b hb => by
    rw [hbl] at hb
    exact ⟨hng b (mem_blocksL.2 ⟨_, List.getElem_mem hk, hb⟩), .inl hb⟩
  refine M.Mine.keep hset fun b _ _ => ?_
  by_cases hbg : b = g
  · subst hbg
    rcases h.own.1.1.2 with ⟨hv, _⟩ | ⟨g', cap', cur, hv, hb, hg, h1, h2, h3, h4⟩
    · simp at hv
    · simp only [Value.slice.injEq, Option.some.injEq, Addr.mk.injEq, true_and, and_true] at hv
      obtain ⟨rfl, rfl⟩ := hv
      have hkb : k * sz + sz ≤ xs.length * sz := by rw [← Nat.succ_mul]; exact Nat.mul_le_mul_right _ hk
      have hcur : xs.length * sz ≤ cur.size := by rw [h3]; exact Nat.mul_le_mul_right _ h1
      have hml : m.cells.length = sz := by rw [hmc, List.length_set]; exact hxk
      rw [setCells_heap b e m.cells w (k * sz) cur hg (by rw [hml]; omega), heap_setCell_same w b _ cur e v hg]
      congr 2
      apply Array.ext'
      simp only [Array.toList_setIfInBounds]
      rw [hml, hmc]
      have hx := cellsL_set xs k (xs[k]) hu hk hxk
      rw [List.set_getElem_self] at hx
      have hlen := M.cellsL_length hu
      have hcl : cur.toList = cur.toList.take (k * sz) ++ (xs[k]).cells ++ cur.toList.drop (k * sz + sz) := by
        have h5 : cur.toList = M.cellsL xs ++ cur.toList.drop (xs.length * sz) := by rw [← h4, List.take_append_drop]
        have h6 : cur.toList.take (k * sz) = (M.cellsL xs).take (k * sz) := by rw [← h4, List.take_take, Nat.min_eq_left (by omega)]
        have h7 : cur.toList.drop (k * sz + sz) = (M.cellsL xs).drop (k * sz + sz) ++ cur.toList.drop (xs.length * sz) := by
          conv => lhs; rw [h5]
          rw [List.drop_append, hlen, show k * sz + sz - xs.length * sz = 0 by omega, List.drop_zero]
        rw [h6, h7, ← List.append_assoc, ← hx]
        exact h5
      have hl0 : (cur.toList.take (k * sz)).length = k * sz := by simp; omega
      conv => lhs; rw [hcl]
      rw [show k * sz + j = (cur.toList.take (k * sz)).length + j by rw [hl0], set_mid _ _ _ _ _ (by rw [hxk]; exact hj)]
  · rw [heapSet _ _ _ _ hbg, setCells_other g b hbg]

theorem blocksL_split (xs : List M) (k : Nat) (hk : k < xs.length) : M.blocksL xs = M.blocksL (xs.take k) ++ ((xs[k]).blocks ++ M.blocksL (xs.drop (k + 1))) := by
  conv => lhs; rw [← List.take_append_drop k xs, List.drop_eq_getElem_cons hk]
  rw [M.blocksL_append]; rfl
theorem blocksL_set_same (xs : List M) (k : Nat) (m : M) (hk : k < xs.length) (h : m.blocks = (xs[k]).blocks) : M.blocksL (xs.set k m) = M.blocksL xs := by
  rw [blocksL_split xs k hk, List.set_eq_take_append_cons_drop, if_pos hk, M.blocksL_append, ← h]; rfl
theorem cellsL_set_same (xs : List M) (k : Nat) (m : M) (hk : k < xs.length) (h : m.cells = (xs[k]).cells) : M.cellsL (xs.set k m) = M.cellsL xs := by
  conv => rhs; rw [← List.take_append_drop k xs, List.drop_eq_getElem_cons hk]
  rw [List.set_eq_take_append_cons_drop, if_pos hk, M.cellsL_append, M.cellsL_append]
  simp only [M.cellsL, h]

theorem OwnL_setSub {w w' : World} {lo : Nat} {xs : List M} (hx : M.OwnL w lo xs) (hd2 : (M.blocksL xs).Nodup) (k : Nat) (hk : k < xs.length) (m : M) (hm : m.Own w' lo) {bs : List Nat} (ho : Only bs w w') (hbs : ∀ b ∈ bs, b ∈ (xs[k]).blocks) : M.OwnL w' lo (xs.set k m) := by
  have hxlt := M.OwnL.lt xs hx
  rw [blocksL_split xs k hk, List.nodup_append] at hd2
  obtain ⟨hp1, hp2, hp3⟩ := hd2
  rw [List.nodup_append] at hp2
  obtain ⟨hq1, hq2, hq3⟩ := hp2
  rw [List.set_eq_take_append_cons_drop, if_pos hk, M.OwnL_append]
  have hx' := hx
  rw [← List.take_append_drop k xs, List.drop_eq_getElem_cons hk, M.OwnL_append] at hx'
  obtain ⟨ha, _, hc⟩ := hx'
  refine ⟨M.OwnL.frame _ ha fun b hb => ?_, hm, M.OwnL.frame _ hc fun b hb => ?_⟩
  · exact ho.block b (hxlt b (by rw [blocksL_split xs k hk]; simp [hb])).2 fun hn => hp3 b hb b (by simp [hbs b hn]) rfl
  · exact ho.block b (hxlt b (by rw [blocksL_split xs k hk]; simp [hb])).2 fun hn => hq3 b (hbs b hn) b hb rfl

/-- The inner rows of element k have changed, its own cells have not. -/
theorem M.Mine.setSub {w w' : World} {lo g cap sz : Nat} {e : TypeId} {xs : List M} (h : (M.sl (some ⟨g, 0, none⟩) cap sz e xs).Mine w lo) (k : Nat) (hk : k < xs.length) (m : M)
    (hmc : m.cells = (xs[k]).cells) (hm : m.Mine w' lo) (hbl : m.blocks = (xs[k]).blocks) {bs : List Nat} (ho : Only bs w w') (hbs : ∀ b ∈ bs, b ∈ (xs[k]).blocks) :
    (M.sl (some ⟨g, 0, none⟩) cap sz e (xs.set k m)).Mine w' lo := by
  obtain ⟨⟨⟨hrow, hs, hu⟩, hx⟩, hd⟩ := h
  simp only [M.blocks] at hd
  have hd0 := hd
  rw [List.nodup_append] at hd
  obtain ⟨hd1, hd2, hd3⟩ := hd
  have hng : ∀ b ∈ M.blocksL xs, b ≠ g := fun b hb he => hd3 g (by simp [addrBlocks]) b hb he.symm
  have hmem : ∀ b ∈ (xs[k]).blocks, b ∈ M.blocksL xs := fun b hb => mem_blocksL.2 ⟨_, List.getElem_mem hk, hb⟩
  have hxlt := M.OwnL.lt xs hx
  rw [blocksL_split xs k hk, List.nodup_append] at hd2
  obtain ⟨hp1, hp2, hp3⟩ := hd2
  rw [List.nodup_append] at hp2
  obtain ⟨hq1, hq2, hq3⟩ := hp2
  refine ⟨⟨⟨?_, hs, ?_⟩, ?_⟩, ?_⟩
  · rw [cellsL_set_same xs k m hk hmc, List.length_set]
    refine ownsRow_frame hrow fun b hb => ?_
    simp [addrBlocks] at hb
    subst hb
    rcases hrow.2 with ⟨hv, _⟩ | ⟨g', cap', cur, hv, hb', hg, _⟩
    · simp at hv
    · simp only [Value.slice.injEq, Option.some.injEq, Addr.mk.injEq, true_and, and_true] at hv
      obtain ⟨rfl, rfl⟩ := hv
      exact ho.block _ (Array.getElem?_eq_some_iff.1 hg).1 fun hb => hng _ (hmem _ (hbs _ hb)) rfl
  · intro x hx2
    rcases List.mem_or_eq_of_mem_set hx2 with h1 | rfl
    · exact hu x h1
    · rw [hmc]; exact hu _ (List.getElem_mem hk)
  · rw [List.set_eq_take_append_cons_drop, if_pos hk]
    rw [M.OwnL_append]
    have hx' := hx
    rw [← List.take_append_drop k xs, List.drop_eq_getElem_cons hk, M.OwnL_append] at hx'
    obtain ⟨ha, _, hc⟩ := hx'
    refine ⟨M.OwnL.frame _ ha fun b hb => ?_, hm.own, M.OwnL.frame _ hc fun b hb => ?_⟩
    · exact ho.block b (hxlt b (by rw [blocksL_split xs k hk]; simp [hb])).2 fun hn => hp3 b hb b (by simp [hbs b hn]) rfl
    · exact ho.block b (hxlt b (by rw [blocksL_split xs k hk]; simp [hb])).2 fun hn => hq3 b (hbs b hn) b hb rfl
  · simp only [M.blocks]
    rw [blocksL_set_same xs k m hk hbl]; exact hd0

theorem M.Mine.inner {w : World} {lo g cap sz : Nat} {e : TypeId} {xs : List M} (h : (M.sl (some ⟨g, 0, none⟩) cap sz e xs).Mine w lo) (k : Nat) (hk : k < xs.length) : (xs[k]).Mine w lo := by
  have hd := h.dup
  simp only [M.blocks] at hd
  rw [List.nodup_append] at hd
  have hd2 := hd.2.1
  rw [blocksL_split xs k hk, List.nodup_append] at hd2
  have h3 := hd2.2.1
  rw [List.nodup_append] at h3
  exact ⟨OwnL_iff.1 h.own.2 _ (List.getElem_mem hk), h3.1⟩
theorem M.Mine.part {w : World} {lo : Nat} {ys : List M} (h : (M.ag ys).Mine w lo) {j : Nat} {m : M} (hj : ys[j]? = some m) : m.Mine w lo := by
  obtain ⟨hjj, rfl⟩ := List.getElem?_eq_some_iff.1 hj
  have hd2 : (M.blocksL ys).Nodup := h.dup
  rw [blocksL_split ys j hjj, List.nodup_append] at hd2
  have h3 := hd2.2.1
  rw [List.nodup_append] at h3
  exact ⟨OwnL_iff.1 h.own _ (List.getElem_mem hjj), h3.1⟩
/-- Part j of element k of a row of one's own. -/
theorem M.Mine.piece {w : World} {lo g cap sz : Nat} {e : TypeId} {xs : List M} (h : (M.sl (some ⟨g, 0, none⟩) cap sz e xs).Mine w lo) {k : Nat} {ys : List M} (hx : xs[k]? = some (.ag ys)) {j : Nat} {m : M} (hj : ys[j]? = some m) : m.Mine w lo := by
  obtain ⟨hk, he⟩ := List.getElem?_eq_some_iff.1 hx
  exact (he ▸ h.inner k hk : (M.ag ys).Mine w lo).part hj

theorem cellsL_one : ∀ (ys : List M) (j : Nat) (m : M), (∀ y ∈ ys, y.cells.length = 1) → j < ys.length → ∀ v, m.cells = [v] → M.cellsL (ys.set j m) = (M.cellsL ys).set j v
  | [], j, _, _, hj, _, _ => by simp at hj
  | y :: r, 0, m, h, _, v, hm => by
    have h1 := h y (List.mem_cons_self ..)
    obtain ⟨u, hu⟩ := List.length_eq_one_iff.1 h1
    simp [M.cellsL, hm, hu]
  | y :: r, j + 1, m, h, hj, v, hm => by
    have h1 := h y (List.mem_cons_self ..)
    obtain ⟨u, hu⟩ := List.length_eq_one_iff.1 h1
    simp only [List.set_cons_succ, M.cellsL, cellsL_one r j m (fun z hz => h z (List.mem_cons_of_mem _ hz)) (by simpa using hj) v hm, hu]
    simp
theorem cellsL_ones : ∀ (ys : List M), (∀ y ∈ ys, y.cells.length = 1) → (M.cellsL ys).length = ys.length
  | [], _ => rfl
  | y :: r, h => by simp only [M.cellsL, List.length_append, List.length_cons, cellsL_ones r (fun z hz => h z (List.mem_cons_of_mem _ hz)), h y (List.mem_cons_self ..)]; omega

/-- Part j of element k, a simple cell, is written. -/
theorem M.Mine.setC {w : World} {lo g cap sz : Nat} {e : TypeId} {xs : List M} (h : (M.sl (some ⟨g, 0, none⟩) cap sz e xs).Mine w lo) {k : Nat} {ys : List M} (hx : xs[k]? = some (.ag ys)) (j : Nat) {u : Value} (hy : ys[j]? = some (.c u))
    (h1 : ∀ y ∈ ys, y.cells.length = 1) (v : Value) (hv : v.oneCell' = true) :
    (M.sl (some ⟨g, 0, none⟩) cap sz e (xs.set k (.ag (ys.set j (.c v))))).Mine (w.setCell ⟨g, k * sz + j, none⟩ v) lo ∧ (xs.set k (.ag (ys.set j (.c v))))[k]? = some (.ag (ys.set j (.c v))) := by
  obtain ⟨hk, he⟩ := List.getElem?_eq_some_iff.1 hx
  obtain ⟨hj, hej⟩ := List.getElem?_eq_some_iff.1 hy
  have hsz := h.own.1.2.2 _ (List.getElem_mem hk)
  rw [he] at hsz
  have hsz' : ys.length = sz := by rw [← hsz]; exact (cellsL_ones ys h1).symm
  have hel := h.inner k hk
  rw [he] at hel
  have hbl : M.blocksL (ys.set j (.c v)) = M.blocksL ys := blocksL_set_same ys j _ hj (by rw [hej]; rfl)
  refine ⟨h.setOne k hk j (by omega) (.ag (ys.set j (.c v))) v ?_ ⟨?_, ?_⟩ ?_, by simp [hk]⟩
  · rw [he]; exact cellsL_one ys j _ h1 hj v rfl
  · refine OwnL_iff.2 fun y hy => ?_
    rcases List.mem_or_eq_of_mem_set hy with h2 | rfl
    · exact OwnL_iff.1 hel.own y h2
    · exact hv
  · show (M.blocksL (ys.set j (.c v))).Nodup
    rw [hbl]; exact hel.dup
  · rw [he]; exact hbl

/-- Part j of element k, an inner row, has changed inside. -/
theorem M.Mine.setP {w w' : World} {lo g cap sz : Nat} {e : TypeId} {xs : List M} (h : (M.sl (some ⟨g, 0, none⟩) cap sz e xs).Mine w lo) {k : Nat} {ys : List M} (hx : xs[k]? = some (.ag ys)) (j : Nat) {m : M} (hy : ys[j]? = some m)
    (m' : M) (hc : m'.cells = m.cells) (hb : m'.blocks = m.blocks) (hm : m'.Mine w' lo) {bs : List Nat} (ho : Only bs w w') (hbs : ∀ b ∈ bs, b ∈ m.blocks) :
    (M.sl (some ⟨g, 0, none⟩) cap sz e (xs.set k (.ag (ys.set j m')))).Mine w' lo ∧ (xs.set k (.ag (ys.set j m')))[k]? = some (.ag (ys.set j m')) ∧ M.blocksL (xs.set k (.ag (ys.set j m'))) = M.blocksL xs := by
  obtain ⟨hk, he⟩ := List.getElem?_eq_some_iff.1 hx
  obtain ⟨hj, hej⟩ := List.getElem?_eq_some_iff.1 hy
  have hel := h.inner k hk
  rw [he] at hel
  have hbl : M.blocksL (ys.set j m') = M.blocksL ys := blocksL_set_same ys j _ hj (by rw [hej]; exact hb)
  have hcl : M.cellsL (ys.set j m') = M.cellsL ys := cellsL_set_same ys j _ hj (by rw [hej]; exact hc)
  have hbs' : ∀ b ∈ bs, b ∈ M.blocksL ys := fun b hb => mem_blocksL.2 ⟨m, hej ▸ List.getElem_mem hj, hbs b hb⟩
  refine ⟨h.setSub k hk (.ag (ys.set j m')) (by rw [he]; exact hcl) ⟨OwnL_setSub hel.own hel.dup j hj m' hm.own ho (by rw [hej]; exact hbs), ?_⟩ (by rw [he]; exact hbl) ho (by rw [he]; exact hbs'), by simp [hk], ?_⟩
  · show (M.blocksL (ys.set j m')).Nodup
    rw [hbl]; exact hel.dup
  · exact blocksL_set_same xs k _ hk (by rw [he]; exact hbl)
theorem setC_blocks {xs : List M} {k : Nat} {ys : List M} (hx : xs[k]? = some (.ag ys)) {j : Nat} {u : Value} (hy : ys[j]? = some (.c u)) (v : Value) : M.blocksL (xs.set k (.ag (ys.set j (.c v)))) = M.blocksL xs := by
  obtain ⟨hk, he⟩ := List.getElem?_eq_some_iff.1 hx
  obtain ⟨hj, hej⟩ := List.getElem?_eq_some_iff.1 hy
  exact blocksL_set_same xs k _ hk (by rw [he]; exact blocksL_set_same ys j _ hj (by rw [hej]; rfl))
end Go.Proofs.YtigmgfinjapchaaDoor

/-
  Walks: marking data. No condition.
-/
set_option linter.unusedVariables false
set_option linter.unusedSimpArgs false
set_option maxRecDepth 100000
namespace Go.Proofs.YtigmgfinjapchaaDoor
open Go.RowKit

mutual
/-- A datum whose places have been numbered from k on. -/
def Dat.mark (k : Int) : Dat → Dat
  | .mk _ _ _ es => .mk k (k + 1) (mtx (k + 2)) (Dat.markL (k + 3) es)
def Dat.markL (k : Int) : List Dat → List Dat
  | [] => []
  | d :: r => d.mark k :: Dat.markL (k + 3 * (d.count : Int)) r
end
theorem Dat.markL_append (xs ys : List Dat) : ∀ k, Dat.markL k (xs ++ ys) = Dat.markL k xs ++ Dat.markL (k + 3 * (Dat.countL xs : Int)) ys := by
  induction xs with
  | nil => intro k; simp [Dat.markL, Dat.countL]
  | cons x r ih =>
    intro k
    simp only [List.cons_append, Dat.markL, Dat.countL, ih]
    congr 3
    push_cast; omega
theorem Dat.markL_length (ds : List Dat) : ∀ k, (Dat.markL k ds).length = ds.length := by
  induction ds with
  | nil => intro k; rfl
  | cons x r ih => intro k; simp [Dat.markL, ih]
mutual
theorem Dat.count_mark : ∀ (d : Dat) (k : Int), (d.mark k).count = d.count
  | .mk _ _ _ es, k => by simp only [Dat.mark, Dat.count, Dat.countL_markL es]
theorem Dat.countL_markL : ∀ (ds : List Dat) (k : Int), Dat.countL (Dat.markL k ds) = Dat.countL ds
  | [], k => rfl
  | d :: r, k => by simp only [Dat.markL, Dat.countL, Dat.count_mark d, Dat.countL_markL r]
end
theorem Dat.markL_take {ds : List Dat} {j : Nat} {d : Dat} (h : ds[j]? = some d) (k : Int) : Dat.markL k (ds.take (j + 1)) = Dat.markL k (ds.take j) ++ [d.mark (k + 3 * (Dat.countL (ds.take j) : Int))] := by
  rw [take_snoc h, Dat.markL_append]; rfl
theorem Dat.mark_set {ds : List Dat} {j : Nat} {d : Dat} (h : ds[j]? = some d) (k : Int) :
    (Dat.markL k (ds.take j) ++ ds.drop j).set j (d.mark (k + 3 * (Dat.countL (ds.take j) : Int))) = Dat.markL k (ds.take (j + 1)) ++ ds.drop (j + 1) := by
  obtain ⟨hj, rfl⟩ := List.getElem?_eq_some_iff.1 h
  have hl : (Dat.markL k (ds.take j)).length = j := by rw [Dat.markL_length]; simp; omega
  rw [List.set_append, hl, if_neg (by omega), Nat.sub_self, List.drop_eq_getElem_cons hj, List.set_cons_zero, Dat.markL_take h k]
  simp
theorem Dat.mark_at {ds : List Dat} {j : Nat} (k : Int) (hj : j < ds.length) : (Dat.markL k (ds.take j) ++ ds.drop j)[j]? = ds[j]? := by
  have hl : (Dat.markL k (ds.take j)).length = j := by rw [Dat.markL_length]; simp; omega
  rw [List.getElem?_append_right (by omega), hl, Nat.sub_self, List.getElem?_drop]; simp

def MarkedDs (k : Int) (a : Option Addr) (cap : Nat) (ms : List M) (ds : List Dat) (lo : Nat) (w : World) (e : Ending) (w' : World) : Prop :=
  e = .returned (.int .i64 (k + 3 * (Dat.countL ds : Int))) ∧ ∃ ms', ms'.length = ms.length ∧ Dat.IsL 43 (Dat.markL k ds) ms' ∧ (M.sl a cap 4 43 ms').Mine w' lo ∧ M.blocksL ms' = M.blocksL ms ∧
    Only (M.sl a cap 4 43 ms).blocks w w'
def MkDs (ds : List Dat) : Prop := ∀ (a : Option Addr) (cap : Nat) (ms : List M) (k : Int) (lo : Nat) (w : World), Dat.IsL 43 ds ms → (M.sl a cap 4 43 ms).Mine w lo → 0 ≤ k → k + 3 * (Dat.countL ds : Int) ≤ 1000000000000 →
    Calls Tryd.prog 14 #[.slice a ms.length cap, .int .i64 k] w (MarkedDs k a cap ms ds lo w)

theorem markDatumS_calls : ∀ ds, MkDs ds := by
  refine Dat.inductL fun ds ih => ?_
  intro a cap ms k lo w hi hm hk0 hkb
  have hln := hi.length
  have hcapm := hm.in_.len
  have IH := Lib.hid ih; clear ih; have HI := Lib.hid hi; clear hi; have HM := Lib.hid hm; clear hm; have HKB := Lib.hid hkb; clear hkb; have HLN := Lib.hid hln; clear hln
  go_enter Tryd.func14, Tryd.ntmps14
  go_wp2_with fail
  go_loopw [1, 5] (fun t i wr => ∃ (j : Nat) (ms' : List M), j ≤ ms.length ∧ i = .int .i64 j ∧ t = .int .i64 (k + 3 * (Dat.countL (ds.take j) : Int)) ∧ ms'.length = ms.length ∧ Dat.IsL 43 (Dat.markL k (ds.take j) ++ ds.drop j) ms' ∧ (M.sl a cap 4 43 ms').Mine wr lo ∧ M.blocksL ms' = M.blocksL ms ∧ Only (M.sl a cap 4 43 ms).blocks w wr) (fun _ i _ => ms.length - (intOf i).toNat)
  case atStart => exact ⟨0, ms, Nat.zero_le _, rfl, by simp [Dat.countL], rfl, by simpa [Dat.markL] using HI.out, HM.out, rfl, Only.refl _ _⟩
  case round =>
    obtain ⟨j, ms', hj, rfl, rfl, hml, hi', hm', hbl, ho⟩ := hrel
    by_cases hlt : j < ms.length
    · have hjd : j < ds.length := by have := HLN.out; omega
      have hjm : j < ms'.length := by omega
      have hdj : ds[j]? = some ds[j] := List.getElem?_eq_getElem hjd
      have hat := Dat.mark_at k hjd
      have hil := hi'.length
      have hg := hi'.get j (by omega) hjm
      have hge : (Dat.markL k (ds.take j) ++ ds.drop j)[j]'(by omega) = ds[j] := by
        have := hat
        rw [List.getElem?_eq_getElem (by omega), hdj] at this
        exact Option.some.inj this
      rw [hge] at hg
      have hmset := Dat.mark_set hdj k
      have hmem : ds[j] ∈ ds := List.getElem_mem hjd
      have hcl := (Dat.countL_le ds j _ hdj)
      generalize hd1 : ds[j] = d1 at *
      obtain ⟨k1, n1, s1, ds1⟩ := d1
      obtain ⟨a1, cap1, ms1, hmj, hi1⟩ := hg
      have hkk := HKB.out
      obtain ⟨hc1', hc2'⟩ := hcl
      simp only [Dat.count] at hc1' hc2'
      obtain ⟨g, rfl, _, hgw⟩ := hm'.addr (by omega)
      obtain ⟨⟨u0, r0⟩, f0⟩ := hm'.row (j * 4) (by omega)
      obtain ⟨⟨u1, r1⟩, f1⟩ := hm'.row (j * 4 + 1) (by omega)
      obtain ⟨⟨u2, r2⟩, f2⟩ := hm'.row (j * 4 + 2) (by omega)
      obtain ⟨bb, oo, hg0, hel⟩ := hm'.in_.elem (by omega)
      obtain ⟨rfl, rfl⟩ : g = bb ∧ oo = 0 := by simp only [Option.some.injEq, Addr.mk.injEq, and_true] at hg0; exact ⟨hg0.1, hg0.2.symm⟩
      have r3 := hel j hjm 3 (.slice a1 ms1.length cap1) (by rw [hmj]; rfl)
      rw [Nat.zero_add] at r3
      clear hel hg0 hat
      generalize hKe : k + 3 * (Dat.countL (ds.take j) : Int) = K at *
      have hK0 : 0 ≤ K := by omega
      have hK9 : K + 3 + 3 * (Dat.countL ds1 : Int) ≤ 1000000000000 := by omega
      -- the three stores
      have hx : ms'[j]? = some (.ag [.c (.int .i64 k1), .c (.int .i64 n1), .c (.string s1), .sl a1 cap1 4 43 ms1]) := by rw [List.getElem?_eq_getElem hjm, hmj]
      have one : ∀ (u v x : Value), ∀ y ∈ [M.c u, .c v, .c x, .sl a1 cap1 4 43 ms1], y.cells.length = 1 := by intro u v x y hy; simp at hy; rcases hy with rfl | rfl | rfl | rfl <;> rfl
      obtain ⟨h0, hx0⟩ := hm'.setC hx 0 rfl (one _ _ _) (.int .i64 K) rfl
      have hb0 := setC_blocks (j := 0) hx rfl (.int .i64 K)
      simp only [List.set_cons_zero, List.set_cons_succ, Nat.add_zero] at h0 hx0 hb0
      obtain ⟨h1, hx1⟩ := h0.setC hx0 1 rfl (one _ _ _) (.int .i64 (K + 1)) rfl
      have hb1 := setC_blocks (j := 1) hx0 rfl (.int .i64 (K + 1))
      simp only [List.set_cons_zero, List.set_cons_succ, List.set_set] at h1 hx1 hb1
      rw [hb0, hbl] at hb1
      clear h0 hx0 hb0 hx one hge hd1 hil hmj hjm hjd
      have hlen1 : (ms'.set j (.ag [.c (.int .i64 K), .c (.int .i64 (K + 1)), .c (.string s1), .sl a1 cap1 4 43 ms1])).length = ms.length := by simp [hml]
      generalize hms1 : ms'.set j (.ag [.c (.int .i64 K), .c (.int .i64 (K + 1)), .c (.string s1), .sl a1 cap1 4 43 ms1]) = ms'' at *
      have HI' := Lib.hid hi'; clear hi'; have HM' := Lib.hid hm'; clear hm'; have HML := Lib.hid hml; clear hml; have HDJ := Lib.hid hdj; clear hdj; have HI1 := Lib.hid hi1; clear hi1; have HMSET := Lib.hid hmset; clear hmset; have HMEM := Lib.hid hmem; clear hmem; have HBL := Lib.hid hbl; clear hbl; have HO := Lib.hid ho; clear ho; have H1 := Lib.hid h1; clear h1; have HX1 := Lib.hid hx1; clear hx1; have HB1 := Lib.hid hb1; clear hb1; have HLEN1 := Lib.hid hlen1; clear hlen1; have HMS1 := Lib.hid hms1; clear hms1; have HC1' := Lib.hid hc1'; clear hc1'; have HKE := Lib.hid hKe; clear hKe
      clear hkk
      have hK1 : K ≤ 1000000000000 := by omega
      have hK2 : K + 1 ≤ 1000000000000 := by omega
      have hK3 : K + 1 + 1 ≤ 1000000000000 := by omega
      go_wp2_with fail
      refine (markText_calls _ _ (by omega)).mono ?_
      rintro e w2 ⟨rfl, hb2⟩
      obtain ⟨hc2, hf2⟩ := bcell hb2; have hz2 := hb2.size; (try simp only [World.size_alloc, World.size_setCell, World.size_drew, sizeDrewN] at hz2 hc2 hf2)
      go_wp2_with fail
      have h1b := H1.out.below hb2
      have one : ∀ (u v x : Value), ∀ y ∈ [M.c u, .c v, .c x, .sl a1 cap1 4 43 ms1], y.cells.length = 1 := by intro u v x y hy; simp at hy; rcases hy with rfl | rfl | rfl | rfl <;> rfl
      obtain ⟨h2, hx2⟩ := h1b.setC HX1.out 2 rfl (one _ _ _) (.string (mtx (K + 1 + 1))) rfl
      have hbl2 := setC_blocks (j := 2) HX1.out rfl (.string (mtx (K + 1 + 1)))
      simp only [List.set_cons_zero, List.set_cons_succ] at h2 hx2 hbl2
      clear one h1b
      have hsub := h2.piece hx2 (j := 3) rfl
      have H2 := Lib.hid h2; clear h2; have HX2 := Lib.hid hx2; clear hx2; have HBL2 := Lib.hid hbl2; clear hbl2; have HSUB := Lib.hid hsub; clear hsub
      have e2 : K + 1 + 1 = K + 2 := by omega
      have e3 : K + 1 + 1 + 1 = K + 3 := by omega
      refine (IH.out k1 n1 s1 ds1 HMEM.out a1 cap1 ms1 (K + 1 + 1 + 1) lo _ HI1.out HSUB.out (by omega) (by omega)).mono ?_
      rintro e w3 ⟨rfl, ms1', hml1, hi1', hm1', hbl1, ho1⟩
      obtain ⟨h3, _, hbl3⟩ := H2.out.setP HX2.out 3 (m := .sl a1 cap1 4 43 ms1) rfl (.sl a1 cap1 4 43 ms1') (by simp [M.cells, hml1]) (by simp [M.blocks, hbl1]) hm1' ho1 (fun b hb => hb)
      simp only [List.set_cons_zero, List.set_cons_succ, List.set_set] at h3 hbl3
      have his := HI'.out.set j (d := Dat.mark K (.mk k1 n1 s1 ds1)) (m := .ag [.c (.int .i64 K), .c (.int .i64 (K + 1)), .c (.string (mtx (K + 1 + 1))), .sl a1 cap1 4 43 ms1']) ⟨a1, cap1, ms1', by rw [e2], by rw [e3] at hi1'; exact hi1'⟩
      rw [HMSET.out] at his
      have hms := HMS1.out
      have hfin : ms''.set j (.ag [.c (.int .i64 K), .c (.int .i64 (K + 1)), .c (.string (mtx (K + 1 + 1))), .sl a1 cap1 4 43 ms1']) = ms'.set j (.ag [.c (.int .i64 K), .c (.int .i64 (K + 1)), .c (.string (mtx (K + 1 + 1))), .sl a1 cap1 4 43 ms1']) := by rw [← hms, List.set_set]
      rw [hfin] at h3 hbl3
      have hsubs : ∀ x ∈ (M.sl a1 cap1 4 43 ms1).blocks, x ∈ M.blocksL ms := by
        intro x hx
        rw [← HB1.out]
        exact mem_blocksL.2 ⟨_, List.mem_of_getElem? HX1.out, by simpa [M.blocks, M.blocksL] using hx⟩
      have hbf : M.blocksL (ms'.set j (.ag [.c (.int .i64 K), .c (.int .i64 (K + 1)), .c (.string (mtx (K + 1 + 1))), .sl a1 cap1 4 43 ms1'])) = M.blocksL ms := by
        rw [hbl3, HBL2.out, HB1.out]
      have hcount : k + 3 * (Dat.countL (ds.take (j + 1)) : Int) = K + 1 + 1 + 1 + 3 * (Dat.countL ds1 : Int) := by
        have h1 := HC1'.out; have h2 := HKE.out; rw [h1]; push_cast; omega
      have hgm : ∀ u, (⟨g, u, none⟩ : Addr).block ∈ (M.sl (some ⟨g, 0, none⟩) cap 4 43 ms).blocks := fun u => by simp [M.blocks, addrBlocks]
      have hof := ((((HO.out.setCell (hgm _) (.int .i64 K)).setCell (hgm _) (.int .i64 (K + 1))).trans (Only.of_below hb2)).setCell (hgm _) (.string (mtx (K + 1 + 1)))).trans (ho1.mono fun x hx => by simp [M.blocks, hsubs x hx])
      have HI1' := Lib.hid hi1'; clear hi1'; have HM1' := Lib.hid hm1'; clear hm1'; have HBL1 := Lib.hid hbl1; clear hbl1; have HO1 := Lib.hid ho1; clear ho1; have H3 := Lib.hid h3; clear h3; have HBL3 := Lib.hid hbl3; clear hbl3; have HIS := Lib.hid his; clear his; have HBF := Lib.hid hbf; clear hbf; have HOF := Lib.hid hof; clear hof; have HCOUNT := Lib.hid hcount; clear hcount; have HML1 := Lib.hid hml1; clear hml1; have HFIN := Lib.hid hfin; clear hfin; have HMS := Lib.hid hms; clear hms; have HSUBS := Lib.hid hsubs; clear hsubs; have HGM := Lib.hid hgm; clear hgm
      go_wp2_with fail
      go_roundw
      case rel => exact ⟨j + 1, _, by omega, by go_num, by rw [HCOUNT.out]; exact congrArg _ (by omega), by rw [List.length_set]; exact HML.out, HIS.out, H3.out, HBF.out, HOF.out⟩
      case measure => simp [intOf]; omega
    · go_wp2_with fail
      go_ret
      obtain rfl : j = ms.length := by omega
      have hl := HLN.out
      exact ⟨ret_i (by rw [hl, List.take_length]), ms', hml, by rw [hl, List.take_length] at hi'; simpa using hi', hm', hbl, ho⟩
end Go.Proofs.YtigmgfinjapchaaDoor

/-
  Marking numbers and texts, in ranges. No condition.
-/
set_option linter.unusedVariables false
namespace Go.Proofs.YtigmgfinjapchaaDoor
open Go.RowKit
theorem eqIntS_same (a : Option Addr) (cap : Nat) (l : List Int) (a2 : Option Addr) (cap2 : Nat) (w : World) (h : (M.sl a cap 1 3 (intM l)).In w) (h2 : (M.sl a2 cap2 1 3 (intM l)).In w) :
    Calls Tryd.prog 29 #[.slice a l.length cap, .slice a2 l.length cap2] w (Ret (.bool true) w) := by
  have := eqIntS_calls a cap l a2 cap2 l w h h2
  rwa [(eqL_iff l l).2 rfl] at this
end Go.Proofs.YtigmgfinjapchaaDoor

/-
  Walks: marked data are held; marking and holding of a datum. No condition.
-/
set_option linter.unusedVariables false
set_option linter.unusedSimpArgs false
set_option maxRecDepth 100000
namespace Go.Proofs.YtigmgfinjapchaaDoor
open Go.RowKit

theorem Dat.markL_get {ds : List Dat} {j : Nat} {d : Dat} (h : ds[j]? = some d) (k : Int) : (Dat.markL k ds)[j]? = some (d.mark (k + 3 * (Dat.countL (ds.take j) : Int))) := by
  obtain ⟨hj, rfl⟩ := List.getElem?_eq_some_iff.1 h
  conv => lhs; rw [← List.take_append_drop j ds, List.drop_eq_getElem_cons hj, Dat.markL_append]
  have hl : (Dat.markL k (ds.take j)).length = j := by rw [Dat.markL_length]; simp; omega
  rw [List.getElem?_append_right (by omega), hl, Nat.sub_self]; rfl

def HdDs (ds : List Dat) : Prop := ∀ (a : Option Addr) (cap : Nat) (ms : List M) (k : Int) (w : World), Dat.IsL 43 (Dat.markL k ds) ms → (M.sl a cap 4 43 ms).In w → 0 ≤ k → k + 3 * (Dat.countL ds : Int) ≤ 1000000000000 →
    Calls Tryd.prog 15 #[.slice a ms.length cap, .int .i64 k] w (Ret (.int .i64 (k + 3 * (Dat.countL ds : Int))) w)

theorem heldDatumS_calls : ∀ ds, HdDs ds := by
  refine Dat.inductL fun ds ih => ?_
  intro a cap ms k w hi hin hk0 hkb
  have hln := hi.length
  rw [Dat.markL_length] at hln
  have hcapm := hin.len
  have IH := Lib.hid ih; clear ih; have HI := Lib.hid hi; clear hi; have HIN := Lib.hid hin; clear hin; have HKB := Lib.hid hkb; clear hkb; have HLN := Lib.hid hln; clear hln
  go_enter Tryd.func15, Tryd.ntmps15
  go_wp2_with fail
  go_loopw [1, 5] (fun t i wr => ∃ (j : Nat), j ≤ ms.length ∧ i = .int .i64 j ∧ t = .int .i64 (k + 3 * (Dat.countL (ds.take j) : Int)) ∧ Below w.heap.size w wr ∧ w.heap.size ≤ wr.heap.size) (fun _ i _ => ms.length - (intOf i).toNat)
  case atStart => exact ⟨0, Nat.zero_le _, rfl, by simp [Dat.countL], Below.refl _ _, Nat.le_refl _⟩
  case round =>
    obtain ⟨j, hj, rfl, rfl, hb, hsz⟩ := hrel
    by_cases hlt : j < ms.length
    · have hjd : j < ds.length := by have := HLN.out; omega
      have hdj : ds[j]? = some ds[j] := List.getElem?_eq_getElem hjd
      have hmem : ds[j] ∈ ds := List.getElem_mem hjd
      have hget := Dat.markL_get hdj k
      have hcl := (Dat.countL_le ds j _ hdj)
      generalize hd1 : ds[j] = d1 at *
      obtain ⟨k0, n0, s0, ds0⟩ := d1
      have hkk := HKB.out
      obtain ⟨hc1', hc2'⟩ := hcl
      simp only [Dat.count] at hc1' hc2'
      generalize hKe : k + 3 * (Dat.countL (ds.take j) : Int) = K at *
      have hK0 : 0 ≤ K := by omega
      have hK9 : K + 3 + 3 * (Dat.countL ds0 : Int) ≤ 1000000000000 := by omega
      obtain ⟨b, off, k1, n1, s1, ds1, a1, cap1, ms1, rfl, hd, hi1, hin1, c0, c1, c2, c3⟩ := Dat.elem (HIN.out.below hb) HI.out j hlt
      rw [hget] at hd
      simp only [Dat.mark, Option.some.injEq, Dat.mk.injEq] at hd
      obtain ⟨rfl, rfl, rfl, rfl⟩ := hd
      have hbl := World.block_lt_of_cell? wr _ c0
      have hcount : k + 3 * (Dat.countL (ds.take (j + 1)) : Int) = K + 1 + 1 + 1 + 3 * (Dat.countL ds0 : Int) := by
        rw [hc1']; push_cast; omega
      clear hc1' hget hd1 hkk
      have e2 : K + 1 + 1 = K + 2 := by omega
      rw [show K + 3 = K + 1 + 1 + 1 by omega] at hi1
      rw [← e2] at c2
      clear e2
      have HDJ := Lib.hid hdj; clear hdj; have HMEM := Lib.hid hmem; clear hmem; have HI1 := Lib.hid hi1; clear hi1; have HIN1 := Lib.hid hin1; clear hin1; have HKE := Lib.hid hKe; clear hKe; have HCOUNT := Lib.hid hcount; clear hcount
      have hK1 : K ≤ 1000000000000 := by omega
      have hK2 : K + 1 ≤ 1000000000000 := by omega
      have hK3 : K + 1 + 1 ≤ 1000000000000 := by omega
      go_wp2_with fail
      go_region_held3 (fun w' => w'.cell? ⟨b, off + j * 4 + 2, none⟩ = some (.string (mtx (K + 1 + 1))) ∧ w'.cell? ⟨b, off + j * 4 + 3, none⟩ = some (.slice a1 ms1.length cap1))
        (first | exact ⟨c2, c3⟩ | exact ⟨(hc1 _ _ hbl).trans c2, (hc1 _ _ hbl).trans c3⟩)
        (first | (go_at_call 36; refine (markText_calls _ _ (by omega)).mono ?_; rintro e w1 ⟨rfl, hb1⟩; obtain ⟨hc1, hf1⟩ := bcell hb1; have hz1 := hb1.size; (try simp only [World.size_alloc, World.size_setCell, World.size_drew, sizeDrewN] at hz1 hc1 hf1)))
      have c3' : w1.cell? ⟨b, off + j * 4 + 3, none⟩ = some (.slice a1 ms1.length cap1) := (hc1 _ _ hbl).trans c3
      go_wp2_with fail
      refine (IH.out k0 n0 s0 ds0 HMEM.out a1 cap1 ms1 (K + 1 + 1 + 1) _ HI1.out (HIN1.out.below (by (repeat (first | with_reducible assumption | with_reducible exact Below.refl _ _ | with_reducible refine Below.drew ?_ | with_reducible refine belowDrewN ?_ _ | ((with_reducible refine Below.setCell ?_ ?_ _); rotate_left; focus (first | omega | (simp; done) | (simp; omega))) | ((with_reducible refine Below.alloc ?_ ?_ _); rotate_left; focus (first | omega | (simp; done) | (simp; omega))) | ((with_reducible refine Below.trans ?_ (Below.mono hb1 ?_)); rotate_left; focus (first | omega | (simp; done) | (simp; omega))))))) (by omega) (by omega)).mono ?_
      rintro e w2 ⟨rfl, hb2⟩
      obtain ⟨hc2, hf2⟩ := bcell hb2; have hz2 := hb2.size; (try simp only [World.size_alloc, World.size_setCell, World.size_drew, sizeDrewN] at hz2 hc2 hf2)
      have hpos : ¬ (K + 1 + 1 + 1 + 3 * (Dat.countL ds0 : Int) < 0) := by omega
      go_wp2_with fail
      go_roundw
      case rel => exact ⟨j + 1, by omega, by go_num, by rw [HCOUNT.out], by (repeat (first | with_reducible assumption | with_reducible exact Below.refl _ _ | with_reducible refine Below.drew ?_ | with_reducible refine belowDrewN ?_ _ | ((with_reducible refine Below.setCell ?_ ?_ _); rotate_left; focus (first | omega | (simp; done) | (simp; omega))) | ((with_reducible refine Below.alloc ?_ ?_ _); rotate_left; focus (first | omega | (simp; done) | (simp; omega))) | ((with_reducible refine Below.trans ?_ (Below.mono hb1 ?_)); rotate_left; focus (first | omega | (simp; done) | (simp; omega))) | ((with_reducible refine Below.trans ?_ (Below.mono hb2 ?_)); rotate_left; focus (first | omega | (simp; done) | (simp; omega))))), by omega⟩
      case measure => simp [intOf]; omega
    · go_wp2_with fail
      go_ret
      obtain rfl : j = ms.length := by omega
      have hl := HLN.out
      exact ⟨ret_i (by rw [hl, List.take_length]), hb⟩
theorem heldDatumS_of (ds : List Dat) (a : Option Addr) (cap : Nat) (ms : List M) (n : Nat) (k : Int) (w : World) (hn : ms.length = n) (hi : Dat.IsL 43 (Dat.markL k ds) ms) (hin : (M.sl a cap 4 43 ms).In w) (hk0 : 0 ≤ k) (hkb : k + 3 * (Dat.countL ds : Int) ≤ 1000000000000) :
    Calls Tryd.prog 15 #[.slice a n cap, .int .i64 k] w (Ret (.int .i64 (k + 3 * (Dat.countL ds : Int))) w) := by
  subst hn; exact heldDatumS_calls ds a cap ms k w hi hin hk0 hkb
def MarkedAtDs (k : Int) (a : Option Addr) (cap : Nat) (ms : List M) (ds : List Dat) (lo hi : Nat) (w : World) (e : Ending) (w' : World) : Prop :=
  ∃ ms', e = .returned (.int .i64 (k + 3 * (Dat.countL ds : Int))) ∧ ms'.length = ms.length ∧ Dat.IsL 43 (Dat.markL k ds) ms' ∧ (M.sl a cap 4 43 ms').At lo hi w' ∧ OnlyIn lo hi w w'
theorem markDatumS_at (ds : List Dat) (a : Option Addr) (cap : Nat) (ms : List M) (k : Int) (lo hi : Nat) (w : World) (hi' : Dat.IsL 43 ds ms) (h : (M.sl a cap 4 43 ms).At lo hi w) (hk0 : 0 ≤ k) (hkb : k + 3 * (Dat.countL ds : Int) ≤ 1000000000000) :
    Calls Tryd.prog 14 #[.slice a ms.length cap, .int .i64 k] w (MarkedAtDs k a cap ms ds lo hi w) :=
  (markDatumS_calls ds a cap ms k lo w hi' h.mine hk0 hkb).mono fun e w' ⟨he, ms', h1, h2, h3, h4, h5⟩ => by
    have hb : (M.sl a cap 4 43 ms').blocks = (M.sl a cap 4 43 ms).blocks := by simp [M.blocks, h4]
    obtain ⟨_, hA, hO⟩ := MarkedAt.of (v := .int .i64 (k + 3 * (Dat.countL ds : Int))) h he h3 h5 (fun b hb => hb) (fun b hb' => hb ▸ hb')
    exact ⟨ms', he, h1, h2, hA, hO⟩
end Go.Proofs.YtigmgfinjapchaaDoor

/-
  Walks: BooleanDatum. No condition.
-/
set_option linter.unusedVariables false
set_option linter.unusedSimpArgs false
set_option maxRecDepth 100000
namespace Go.Proofs.YtigmgfinjapchaaDoor
open Go.RowKit
def bnum (b : Bool) : Int := if b = true then 1 else 0
theorem sBooleanDatum_calls (b : Bool) (w : World) : Calls Tryd.prog 75 #[.bool b] w (RetDat 43 (.mk 3 (bnum b) ⟨#[]⟩ []) w) := by
  cases b with
  | true =>
    go_enter Tryd.func75, Tryd.ntmps75
    go_wp2_with fail
    refine bodyPost_ret (v := .agg #[.int .i64 3, .int .i64 1, .string ⟨#[]⟩, .slice none 0 0]) (by simp [results, Tryd.results75, go_sem]) rfl ?_
    exact ⟨none, 0, [], rfl, rfl, M.Mine.nil _ _ _ _ (by decide), by (repeat (first | with_reducible assumption | with_reducible exact Below.refl _ _ | with_reducible refine Below.drew ?_ | with_reducible refine belowDrewN ?_ _ | ((with_reducible refine Below.setCell ?_ ?_ _); rotate_left; focus (first | omega | (simp; done) | (simp; omega))) | ((with_reducible refine Below.alloc ?_ ?_ _); rotate_left; focus (first | omega | (simp; done) | (simp; omega)))))⟩
  | false =>
    go_enter Tryd.func75, Tryd.ntmps75
    go_wp2_with fail
    refine bodyPost_ret (v := .agg #[.int .i64 3, .int .i64 0, .string ⟨#[]⟩, .slice none 0 0]) (by simp [results, Tryd.results75, go_sem]) rfl ?_
    exact ⟨none, 0, [], rfl, rfl, M.Mine.nil _ _ _ _ (by decide), by (repeat (first | with_reducible assumption | with_reducible exact Below.refl _ _ | with_reducible refine Below.drew ?_ | with_reducible refine belowDrewN ?_ _ | ((with_reducible refine Below.setCell ?_ ?_ _); rotate_left; focus (first | omega | (simp; done) | (simp; omega))) | ((with_reducible refine Below.alloc ?_ ?_ _); rotate_left; focus (first | omega | (simp; done) | (simp; omega)))))⟩
end Go.Proofs.YtigmgfinjapchaaDoor

/-
  Walks: data drawn. No condition.
-/
set_option linter.unusedVariables false
set_option linter.unusedSimpArgs false
set_option maxRecDepth 100000
namespace Go.Proofs.YtigmgfinjapchaaDoor
open Go.RowKit

/-- a new datum's cells at block b -/
structure Zero (b : Nat) (w : World) : Prop where
  c0 : w.cell? ⟨b, 0, none⟩ = some (.int .i64 0)
  c1 : w.cell? ⟨b, 1, none⟩ = some (.int .i64 0)
  c2 : w.cell? ⟨b, 2, none⟩ = some (.string ⟨#[]⟩)
  c3 : w.cell? ⟨b, 3, none⟩ = some (.slice none 0 0)
  f0 : w.frozen? ⟨b, 0, none⟩ = false
  f1 : w.frozen? ⟨b, 1, none⟩ = false
  f2 : w.frozen? ⟨b, 2, none⟩ = false
  f3 : w.frozen? ⟨b, 3, none⟩ = false
theorem Zero.lt {b : Nat} {w : World} (h : Zero b w) : b < w.heap.size := World.block_lt_of_cell? w _ h.c0
theorem Zero.of {b : Nat} {w w' : World} (h : Zero b w) (hk : w'.heap[b]? = w.heap[b]?) : Zero b w' :=
  ⟨(World.cell?_of_block hk).trans h.c0, (World.cell?_of_block hk).trans h.c1, (World.cell?_of_block hk).trans h.c2, (World.cell?_of_block hk).trans h.c3,
   (World.frozen?_of_block hk).trans h.f0, (World.frozen?_of_block hk).trans h.f1, (World.frozen?_of_block hk).trans h.f2, (World.frozen?_of_block hk).trans h.f3⟩
theorem Zero.only {b lo hi : Nat} {w w' : World} (h : Zero b w) (k : OnlyIn lo hi w w') (hb : b < lo ∨ hi ≤ b) : Zero b w' := h.of (k.block b h.lt hb)
theorem Zero.below {b B : Nat} {w w' : World} (h : Zero b w) (k : Below B w w') (hb : b < B) : Zero b w' := h.of (k.block b hb)
theorem Zero.new (w : World) : Zero w.heap.size (w.alloc (.cells #[.int .i64 0, .int .i64 0, .string ⟨#[]⟩, .slice none 0 0] 43)) := by
  constructor <;> simp [go_sem]

def textsB : List Value → Bool
  | [] => true
  | .string s :: r => decide (s.size ≤ 100) && textsB r
  | _ => false
theorem Texts.of {cs : Array Value} (h : textsB cs.toList = true) : Texts cs := by
  unfold Texts
  generalize cs.toList = l at *
  induction l with
  | nil => simp
  | cons x r ih =>
    cases x with
    | string s =>
      simp only [textsB, Bool.and_eq_true, decide_eq_true_eq] at h
      intro v hv
      rcases List.mem_cons.1 hv with rfl | hv
      · exact ⟨s, rfl, h.1⟩
      · exact ih h.2 v hv
    | _ => simp [textsB] at h
def numsB : List Value → Bool
  | [] => true
  | .int .i64 s :: r => decide (-9223372036854775808 ≤ s ∧ s ≤ 9223372036854775807) && numsB r
  | _ => false
theorem Nums.of {cs : Array Value} (h : numsB cs.toList = true) : Nums cs := by
  unfold Nums
  generalize cs.toList = l at *
  induction l with
  | nil => simp
  | cons x r ih =>
    cases x with
    | int k s =>
      cases k with
      | i64 =>
        simp only [numsB, Bool.and_eq_true, decide_eq_true_eq] at h
        intro v hv
        rcases List.mem_cons.1 hv with rfl | hv
        · exact ⟨s, rfl, h.1⟩
        · exact ih h.2 v hv
      | _ => simp [numsB] at h
    | _ => simp [numsB] at h

/-- a datum without items made -/
def RetLeaf (w : World) (e : Ending) (w' : World) : Prop :=
  ∃ (k n : Int) (s : ByteArray) (a : Option Addr) (cap : Nat) (ms : List M), e = .returned (.agg #[.int .i64 k, .int .i64 n, .string s, .slice a ms.length cap]) ∧ Dat.IsL 43 [] ms ∧ (M.sl a cap 4 43 ms).Mine w' w.heap.size ∧ (Dat.mk k n s []).wf ∧ Below w.heap.size w w'
theorem onlyS_size (b : Bool) (s : ByteArray) : (onlyS b s).size ≤ s.size := by unfold onlyS; split; exact Nat.le_refl _; exact Nat.zero_le _
theorem onlyN_I64 (b : Bool) {n : Int} (h : I64 n) : I64 (onlyN b n) := by unfold onlyN; split; exact h; (unfold I64; omega)
theorem leafSym (s : ByteArray) (w : World) (hs : s.size ≤ 100) : Calls Tryd.prog 60 #[.string s] w (RetLeaf w) := by
  refine (sSymbolDatum_calls s _ (by omega)).mono ?_
  rintro e w' ⟨a, cap, ms, rfl, hi, hm, hb⟩
  exact ⟨_, _, _, a, cap, ms, rfl, hi, hm, ⟨onlyN_I64 _ (by unfold I64; omega), by show I64 0; unfold I64; omega, Nat.le_trans (onlyS_size _ _) (by omega), trivial⟩, hb⟩
theorem leafStr (s : ByteArray) (w : World) (hs : s.size ≤ 100) : Calls Tryd.prog 62 #[.string s] w (RetLeaf w) := by
  refine (sStringDatum_calls s _ (by omega)).mono ?_
  rintro e w' ⟨a, cap, ms, rfl, hi, hm, hb⟩
  exact ⟨_, _, _, a, cap, ms, rfl, hi, hm, ⟨onlyN_I64 _ (by unfold I64; omega), by show I64 0; unfold I64; omega, Nat.le_trans (onlyS_size _ _) (by omega), trivial⟩, hb⟩
theorem leafNum (n : Int) (w : World) (hn : I64 n) : Calls Tryd.prog 73 #[.int .i64 n] w (RetLeaf w) := by
  refine (sNumberDatum_calls n _).mono ?_
  rintro e w' ⟨a, cap, ms, rfl, hi, hm, hb⟩
  exact ⟨_, _, _, a, cap, ms, rfl, hi, hm, ⟨onlyN_I64 _ (by unfold I64; omega), onlyN_I64 _ hn, by show (ByteArray.mk #[]).size ≤ _; decide, trivial⟩, hb⟩
theorem leafBool (b : Bool) (w : World) : Calls Tryd.prog 75 #[.bool b] w (RetLeaf w) := by
  refine (sBooleanDatum_calls b _).mono ?_
  rintro e w' ⟨a, cap, ms, rfl, hi, hm, hb⟩
  exact ⟨_, _, _, a, cap, ms, rfl, hi, hm, ⟨by show I64 3; unfold I64; omega, by show I64 (bnum b); unfold bnum I64; split <;> omega, by show (ByteArray.mk #[]).size ≤ _; decide, trivial⟩, hb⟩
/-- a datum drawn, of at most B nodes -/
def DrawnD (B : Nat) (pb : Nat) (a : Option Addr) (cap : Nat) (l : List Int) (w : World) (e : Ending) (w' : World) : Prop :=
  ∃ (k n : Int) (s : ByteArray) (ds : List Dat) (a' : Option Addr) (cap' : Nat) (ms : List M), e = .returned (.agg #[.int .i64 k, .int .i64 n, .string s, .slice a' ms.length cap']) ∧ Dat.IsL 43 ds ms ∧ (M.sl a' cap' 4 43 ms).Mine w' w.heap.size ∧ (Dat.mk k n s ds).wf ∧ 1 + Dat.countL ds ≤ B ∧ Cur pb a cap l w' ∧ OnlyIn pb (pb + 1) w w'
def nB : Nat → Nat
  | 0 => 1
  | d + 1 => 1 + 4 * nB d
theorem nB_pos (d : Nat) : 1 ≤ nB d := by cases d <;> simp [nB]
end Go.Proofs.YtigmgfinjapchaaDoor

/-
  Walks: the datum of a run of bytes, both sides. Conditions: the library's table of powers of ten reads as laid, strconv.ErrSyntax holds an error (the program's side).
-/
set_option linter.unusedVariables false
set_option linter.unusedSimpArgs false
set_option maxRecDepth 100000
namespace Go.Proofs.YtigmgfinjapchaaDoor
open Go.RowKit

def atomV : Option Dat → Value
  | some d => .tuple #[.agg #[.int .i64 d.k, .int .i64 d.n, .string d.s, .slice none 0 0], .bool true]
  | none => .tuple #[.agg #[.int .i64 0, .int .i64 0, .string ⟨#[]⟩, .slice none 0 0], .bool false]
theorem atomD_some {s : ByteArray} {n : Int} (h : numOf s.data.toList = some n) : atomD s = some (.mk 2 n ⟨#[]⟩ []) := by unfold atomD; rw [h]
theorem atomD_isSym {s : ByteArray} (h : isSymB s = true) : atomD s = some (.mk 1 0 s []) := atomD_sym h
theorem atomD_none {s : ByteArray} (h : numOf s.data.toList = none) (h1 : ¬ s = ⟨#[35, 116]⟩) (h2 : ¬ s = ⟨#[35, 102]⟩) (h3 : isSymB s = false) : atomD s = none := by
  unfold atomD; rw [h]
  have e1 : ¬ s.data.toList = [35, 116] := fun e => h1 (by apply ByteArray.ext; exact Array.toList_inj.mp e)
  have e2 : ¬ s.data.toList = [35, 102] := fun e => h2 (by apply ByteArray.ext; exact Array.toList_inj.mp e)
  simp only [if_neg e1, if_neg e2, h3]
  rfl
theorem num_tr : numOf (⟨#[35, 116]⟩ : ByteArray).data.toList = none := num_nohash [116]
theorem num_fa : numOf (⟨#[35, 102]⟩ : ByteArray).data.toList = none := num_nohash [102]
theorem ba_tr {s : ByteArray} (h : ¬ s = ⟨#[35, 116]⟩) : (s.toList == [35, 116]) = false := by
  have := ba_ne h
  rwa [show (⟨#[35, 116]⟩ : ByteArray).toList = [35, 116] by rw [ByteArray.toList_eq]] at this
theorem ba_fa {s : ByteArray} (h : ¬ s = ⟨#[35, 102]⟩) : (s.toList == [35, 102]) = false := by
  have := ba_ne h
  rwa [show (⟨#[35, 102]⟩ : ByteArray).toList = [35, 102] by rw [ByteArray.toList_eq]] at this
set_option maxHeartbeats 1000000 in
theorem iAtomOf_calls (s : ByteArray) (w : World) (hs : s.size ≤ 9223372036854775807) (B : Nat) (hT : Tab B w) (hE : Sent B w) (hBw : B ≤ w.heap.size) :
    Calls Tryd.prog 66 #[.string s] w (Ret (atomV (atomD s)) w) := by
  have hzb := Zero.new w
  have hT1 := hT.on (w' := w.alloc (.cells #[.int .i64 0, .int .i64 0, .string ⟨#[]⟩, .slice none 0 0] 43)) (by (repeat (first | with_reducible assumption | with_reducible exact Below.refl _ _ | with_reducible refine Below.drew ?_ | with_reducible refine belowDrewN ?_ _ | ((with_reducible refine Below.setCell ?_ ?_ _); rotate_left; focus (first | omega | (simp; done) | (simp; omega))) | ((with_reducible refine Below.alloc ?_ ?_ _); rotate_left; focus (first | omega | (simp; done) | (simp; omega))))))
  have hE1 := hE.on (w' := w.alloc (.cells #[.int .i64 0, .int .i64 0, .string ⟨#[]⟩, .slice none 0 0] 43)) (by (repeat (first | with_reducible assumption | with_reducible exact Below.refl _ _ | with_reducible refine Below.drew ?_ | with_reducible refine belowDrewN ?_ _ | ((with_reducible refine Below.setCell ?_ ?_ _); rotate_left; focus (first | omega | (simp; done) | (simp; omega))) | ((with_reducible refine Below.alloc ?_ ?_ _); rotate_left; focus (first | omega | (simp; done) | (simp; omega))))))
  have HT := Lib.hid hT; clear hT; have HE := Lib.hid hE; clear hE; have HT1 := Lib.hid hT1; clear hT1; have HE1 := Lib.hid hE1; clear hE1
  cases hn : numOf s.data.toList with
  | some n =>
    have ha : atomV (atomD s) = .tuple #[.agg #[.int .i64 2, .int .i64 n, .string ⟨#[]⟩, .slice none 0 0], .bool true] := by rw [atomD_some hn]; rfl
    rw [ha]
    have HA := Lib.hid ha; clear ha; have HZB := Lib.hid hzb; clear hzb
    go_enter Tryd.func66, Tryd.ntmps66
    go_wp2_with fail
    refine (iParseNumber_calls s _ hs B HT1.out HE1.out (by simp; omega)).mono ?_
    rintro e w1 ⟨rfl, hb1⟩
    rw [hn]
    simp only [numV]
    obtain ⟨r0, r1, r2, r3, g0, g1, g2, g3⟩ := HZB.out.below hb1 (by simp)
    have hz1 := hb1.size
    simp only [World.size_alloc] at hz1
    have HN := Lib.hid hn; clear hn
    go_wp2_with fail
    refine bodyPost_ret (v := .tuple #[.agg #[.int .i64 2, .int .i64 n, .string ⟨#[]⟩, .slice none 0 0], .bool true]) (by simp [results, Tryd.results66, go_sem, r0, r1, r2, r3]) rfl ?_
    exact ⟨rfl, by (repeat (first | with_reducible assumption | with_reducible exact Below.refl _ _ | with_reducible refine Below.drew ?_ | with_reducible refine belowDrewN ?_ _ | ((with_reducible refine Below.setCell ?_ ?_ _); rotate_left; focus (first | omega | (simp; done) | (simp; omega))) | ((with_reducible refine Below.alloc ?_ ?_ _); rotate_left; focus (first | omega | (simp; done) | (simp; omega))) | ((with_reducible refine Below.trans ?_ (Below.mono hb1 ?_)); rotate_left; focus (first | omega | (simp; done) | (simp; omega)))))⟩
  | none =>
    by_cases ht : s = ⟨#[35, 116]⟩
    · subst ht
      rw [atomD_tr]
      have HZB := Lib.hid hzb; clear hzb
      go_enter Tryd.func66, Tryd.ntmps66
      go_wp2_with fail
      refine (iParseNumber_calls ⟨#[35, 116]⟩ _ hs B HT1.out HE1.out (by simp; omega)).mono ?_
      rintro e w1 ⟨rfl, hb1⟩
      rw [num_tr]
      simp only [numV]
      obtain ⟨r0, r1, r2, r3, g0, g1, g2, g3⟩ := HZB.out.below hb1 (by simp)
      have hz1 := hb1.size
      simp only [World.size_alloc] at hz1
      have HN := Lib.hid hn; clear hn
      go_wp2_with fail
      refine bodyPost_ret (v := .tuple #[.agg #[.int .i64 3, .int .i64 1, .string ⟨#[]⟩, .slice none 0 0], .bool true]) (by simp [results, Tryd.results66, go_sem, r0, r1, r2, r3]) rfl ?_
      exact ⟨rfl, by (repeat (first | with_reducible assumption | with_reducible exact Below.refl _ _ | with_reducible refine Below.drew ?_ | with_reducible refine belowDrewN ?_ _ | ((with_reducible refine Below.setCell ?_ ?_ _); rotate_left; focus (first | omega | (simp; done) | (simp; omega))) | ((with_reducible refine Below.alloc ?_ ?_ _); rotate_left; focus (first | omega | (simp; done) | (simp; omega))) | ((with_reducible refine Below.trans ?_ (Below.mono hb1 ?_)); rotate_left; focus (first | omega | (simp; done) | (simp; omega)))))⟩
    by_cases hf : s = ⟨#[35, 102]⟩
    · subst hf
      rw [atomD_fa]
      have HZB := Lib.hid hzb; clear hzb
      go_enter Tryd.func66, Tryd.ntmps66
      go_wp2_with fail
      refine (iParseNumber_calls ⟨#[35, 102]⟩ _ hs B HT1.out HE1.out (by simp; omega)).mono ?_
      rintro e w1 ⟨rfl, hb1⟩
      rw [num_fa]
      simp only [numV]
      obtain ⟨r0, r1, r2, r3, g0, g1, g2, g3⟩ := HZB.out.below hb1 (by simp)
      have hz1 := hb1.size
      simp only [World.size_alloc] at hz1
      have HN := Lib.hid hn; clear hn
      go_wp2_with fail
      refine bodyPost_ret (v := .tuple #[.agg #[.int .i64 3, .int .i64 0, .string ⟨#[]⟩, .slice none 0 0], .bool true]) (by simp [results, Tryd.results66, go_sem, r0, r1, r2, r3]) rfl ?_
      exact ⟨rfl, by (repeat (first | with_reducible assumption | with_reducible exact Below.refl _ _ | with_reducible refine Below.drew ?_ | with_reducible refine belowDrewN ?_ _ | ((with_reducible refine Below.setCell ?_ ?_ _); rotate_left; focus (first | omega | (simp; done) | (simp; omega))) | ((with_reducible refine Below.alloc ?_ ?_ _); rotate_left; focus (first | omega | (simp; done) | (simp; omega))) | ((with_reducible refine Below.trans ?_ (Below.mono hb1 ?_)); rotate_left; focus (first | omega | (simp; done) | (simp; omega)))))⟩
    have hsb1 := ba_tr ht
    have hsb2 := ba_fa hf
    cases hy : isSymB s with
    | true =>
      rw [atomD_isSym hy]
      have HZB := Lib.hid hzb; clear hzb; have HT := Lib.hid ht; clear ht; have HF := Lib.hid hf; clear hf
      go_enter Tryd.func66, Tryd.ntmps66
      go_wp2_with fail
      refine (iParseNumber_calls s _ hs B HT1.out HE1.out (by simp; omega)).mono ?_
      rintro e w1 ⟨rfl, hb1⟩
      rw [hn]
      simp only [numV]
      obtain ⟨r0, r1, r2, r3, g0, g1, g2, g3⟩ := HZB.out.below hb1 (by simp)
      have hz1 := hb1.size
      simp only [World.size_alloc] at hz1
      have HN := Lib.hid hn; clear hn
      go_wp2_with fail
      refine (iIsSymbol_calls s _ hs).mono ?_
      rintro e w2 ⟨rfl, rfl⟩
      rw [hy]
      have HY := Lib.hid hy; clear hy
      go_wp2_with fail
      refine bodyPost_ret (v := .tuple #[.agg #[.int .i64 1, .int .i64 0, .string s, .slice none 0 0], .bool true]) (by simp [results, Tryd.results66, go_sem, r0, r1, r2, r3]) rfl ?_
      exact ⟨rfl, by (repeat (first | with_reducible assumption | with_reducible exact Below.refl _ _ | with_reducible refine Below.drew ?_ | with_reducible refine belowDrewN ?_ _ | ((with_reducible refine Below.setCell ?_ ?_ _); rotate_left; focus (first | omega | (simp; done) | (simp; omega))) | ((with_reducible refine Below.alloc ?_ ?_ _); rotate_left; focus (first | omega | (simp; done) | (simp; omega))) | ((with_reducible refine Below.trans ?_ (Below.mono hb1 ?_)); rotate_left; focus (first | omega | (simp; done) | (simp; omega)))))⟩
    | false =>
      rw [atomD_none hn ht hf hy]
      have HZB := Lib.hid hzb; clear hzb; have HT := Lib.hid ht; clear ht; have HF := Lib.hid hf; clear hf
      go_enter Tryd.func66, Tryd.ntmps66
      go_wp2_with fail
      refine (iParseNumber_calls s _ hs B HT1.out HE1.out (by simp; omega)).mono ?_
      rintro e w1 ⟨rfl, hb1⟩
      rw [hn]
      simp only [numV]
      obtain ⟨r0, r1, r2, r3, g0, g1, g2, g3⟩ := HZB.out.below hb1 (by simp)
      have hz1 := hb1.size
      simp only [World.size_alloc] at hz1
      have HN := Lib.hid hn; clear hn
      go_wp2_with fail
      refine (iIsSymbol_calls s _ hs).mono ?_
      rintro e w2 ⟨rfl, rfl⟩
      rw [hy]
      have HY := Lib.hid hy; clear hy
      go_wp2_with fail
      refine bodyPost_ret (v := .tuple #[.agg #[.int .i64 0, .int .i64 0, .string ⟨#[]⟩, .slice none 0 0], .bool false]) (by simp [results, Tryd.results66, go_sem, r0, r1, r2, r3]) rfl ?_
      exact ⟨rfl, by (repeat (first | with_reducible assumption | with_reducible exact Below.refl _ _ | with_reducible refine Below.drew ?_ | with_reducible refine belowDrewN ?_ _ | ((with_reducible refine Below.setCell ?_ ?_ _); rotate_left; focus (first | omega | (simp; done) | (simp; omega))) | ((with_reducible refine Below.alloc ?_ ?_ _); rotate_left; focus (first | omega | (simp; done) | (simp; omega))) | ((with_reducible refine Below.trans ?_ (Below.mono hb1 ?_)); rotate_left; focus (first | omega | (simp; done) | (simp; omega)))))⟩
/-- what reading one datum leaves, the reference's side: bad tells whether there was none -/
def RdS (pb : Nat) (s : ByteArray) (a : Nat) (w0 w : World) (res : Option (Dat × List UInt8)) (e : Ending) (w' : World) : Prop :=
  ∃ (k n : Int) (t : ByteArray) (ds : List Dat) (sa : Option Addr) (cap : Nat) (ms : List M) (p : Nat) (bad : Bool), e = .returned (.agg #[.int .i64 k, .int .i64 n, .string t, .slice sa ms.length cap]) ∧ Dat.IsL 43 ds ms ∧ (M.sl sa cap 4 43 ms).Mine w' w0.heap.size ∧
    RdAt pb s p (.bool bad) w' ∧ OnlyIn pb (pb + 1) w w' ∧ a ≤ p ∧ p + a ≤ 2 * s.size + 1 ∧ (bad = false → p ≤ s.size ∧ res = some (.mk k n t ds, s.data.toList.drop p)) ∧ (bad = true → res = none)
set_option maxHeartbeats 4000000 in
theorem l1Atom_calls (pb : Nat) (s : ByteArray) (a : Nat) (w : World) (h : RdAt pb s a (.bool false) w) (hs : s.size ≤ 1000000000) (ha : a ≤ s.size) :
    Calls Tryd.prog 63 #[.pointer (some ⟨pb, 0, none⟩)] w (RdS pb s a w w (atomR (s.data.toList.drop a))) := by
  have hpw := h.lt
  have hzb := Zero.new w
  have h1 : RdAt pb s a (.bool false) (w.alloc (.cells #[.int .i64 0, .int .i64 0, .string ⟨#[]⟩, .slice none 0 0] 43)) := h.below (B := w.heap.size) (by (repeat (first | with_reducible assumption | with_reducible exact Below.refl _ _ | with_reducible refine Below.drew ?_ | with_reducible refine belowDrewN ?_ _ | ((with_reducible refine Below.setCell ?_ ?_ _); rotate_left; focus (first | omega | (simp; done) | (simp; omega))) | ((with_reducible refine Below.alloc ?_ ?_ _); rotate_left; focus (first | omega | (simp; done) | (simp; omega)))))) hpw
  obtain ⟨c0, c1, c2, f1, f2⟩ := id h
  have H := Lib.hid h; clear h; have HZB := Lib.hid hzb; clear hzb; have H1 := Lib.hid h1; clear h1
  go_enter Tryd.func63, Tryd.ntmps63
  go_wp2_with fail
  go_loopg [] (s.size - a) (fun k wr => ∃ p : Nat, k = s.size - p ∧ Span runB s.data.toList a p ∧ p ≤ s.size ∧ RdAt pb s p (.bool false) wr ∧ OnlyIn pb (pb + 1) w wr ∧ Zero w.heap.size wr)
  case atStart => exact ⟨a, rfl, Span.start _ _ _, ha, H1.out, (OnlyIn.refl _ _ _).new _, HZB.out⟩
  case round =>
    obtain ⟨p, rfl, hsp, hps, hr, ho, hz⟩ := hrel
    clear c0 c1 c2 f1 f2
    obtain ⟨c0, c1, c2, f1, f2⟩ := id hr
    have hap := hsp.le
    by_cases hlt : p < s.size
    · have hd := drop_at hlt
      have hgl : s.data.toList[p]'(by simpa using hlt) = s[p]'hlt := rfl
      generalize hB : s[p]'hlt = b at *
      cases hrun : runB b with
      | true =>
        have hst := hsp.step (by simpa using hlt) (by rw [hgl]; exact hrun)
        have hne : endB b = false := by simpa [runB] using hrun
        rw [endB_split, Bool.or_eq_false_iff] at hne
        have hbk : ∀ W, Calls Tryd.prog 59 #[.int .u8 (b.toNat : Int)] W (fun e w' => e = .returned (.bool false) ∧ w' = W) := fun W => by have := RetEq.same (l1Blank_calls b W); rwa [hne.1] at this
        have hen : ∀ W, Calls Tryd.prog 85 #[.int .u8 (b.toNat : Int)] W (fun e w' => e = .returned (.bool false) ∧ w' = W) := fun W => by have := RetEq.same (l1Ends_calls b W); rwa [hne.2] at this
        clear hgl
        have HD := Lib.hid hd; clear hd; have HSP := Lib.hid hsp; clear hsp; have HR := Lib.hid hr; clear hr; have HO := Lib.hid ho; clear ho; have HZ := Lib.hid hz; clear hz; have HST := Lib.hid hst; clear hst; have HRUN := Lib.hid hrun; clear hrun; have HNE := Lib.hid hne; clear hne; have HBK := Lib.hid hbk; clear hbk; have HEN := Lib.hid hen; clear hen
        go_wp2_with fail
        go_quiet (first | (go_at_call 59; (with_reducible refine Calls.quiet_of_same (HBK.out _))) | (go_at_call 85; (with_reducible refine Calls.quiet_of_same (HEN.out _))) | fail)
        go_wp2_with fail
        go_roundg (s.size - (p + 1))
        case measure => omega
        case rel => exact ⟨p + 1, rfl, HST.out, by omega, (HR.out.drewN _).move (by omega), (HO.out.drewN _).put _ _, HZ.out.of (heapSet _ _ _ _ (by simp; omega))⟩
      | false =>
        obtain ⟨hst1, hst2⟩ := hsp.stop (by simpa using hlt) (by rw [hgl]; exact hrun)
        have hex := extract_eq hst1.symm
        obtain ⟨T, hT⟩ : ∃ T : ByteArray, T = ⟨((s.data.toList.drop a).takeWhile runB).toArray⟩ := ⟨_, rfl⟩
        rw [← hT] at hex
        have hTs : T.size ≤ s.size := by rw [← hex, ByteArray.size_extract]; omega
        have hat : atomR (s.data.toList.drop a) = (match atomD T with | none => none | some d => some (d, s.data.toList.drop p)) := by unfold atomR; rw [← hT, hst2]; rfl
        have hnb : endB b = true := by simpa [runB] using hrun
        clear hst1 hst2 hT hgl hrun
        cases hbl : blankB b with
        | true =>
          have hbk : ∀ W, Calls Tryd.prog 59 #[.int .u8 (b.toNat : Int)] W (fun e w' => e = .returned (.bool true) ∧ w' = W) := fun W => by have := RetEq.same (l1Blank_calls b W); rwa [hbl] at this
          have HD := Lib.hid hd; clear hd; have HSP := Lib.hid hsp; clear hsp; have HR := Lib.hid hr; clear hr; have HO := Lib.hid ho; clear ho; have HZ := Lib.hid hz; clear hz; have HNB := Lib.hid hnb; clear hnb; have HBK := Lib.hid hbk; clear hbk; have HBL := Lib.hid hbl; clear hbl; have HAT := Lib.hid hat; clear hat; have HEX := Lib.hid hex; clear hex
          go_wp2_with fail
          go_quiet (first | (go_at_call 59; (with_reducible refine Calls.quiet_of_same (HBK.out _))) | fail)
          have hzw := HZ.out.lt
          have hpr := HR.out.lt
          go_wp2_with fail
          go_quiet (fail)
          go_wp2_with fail
          rw [HEX.out]
          refine (sParseNumber_calls T _ (by omega)).mono ?_
          rintro e w2 ⟨rfl, hb2⟩
          have hz2 := hb2.size
          simp only [sizeDrewN] at hz2
          have hr2 : RdAt pb s p (.bool false) w2 := (HR.out.drewN _).below hb2 (by simpa only [sizeDrewN] using hpr)
          have ho2 : OnlyIn pb (pb + 1) w w2 := (HO.out.drewN _).trans (OnlyIn.of_below hb2)
          have hzz2 : Zero w.heap.size w2 := (HZ.out.of (w' := wr.drewN _) rfl).below hb2 (by simpa only [sizeDrewN] using hzw)
          clear c0 c1 c2 f1 f2
          have HR2 := Lib.hid hr2; clear hr2; have HO2 := Lib.hid ho2; clear ho2; have HZZ2 := Lib.hid hzz2; clear hzz2; have HB2 := Lib.hid hb2; clear hb2
          cases hn : numOf T.data.toList with
          | some n =>
            have hat1 := atomD_some hn
            have hnb : numB n = true := by have := numOf_some hn; simp [numB, inB]; omega
            simp only [numV]
            have HAT1 := Lib.hid hat1; clear hat1; have HN := Lib.hid hn; clear hn
            go_wp2_with fail
            refine (sNumberDatum_calls n _).mono ?_
            rintro e w3 ⟨sa, sc, sm, rfl, hi3, hm3, hb3⟩
            simp only [hnb, Dat.k_mk, Dat.n_mk, Dat.s_mk, Dat.ds_mk, onlyN_t] at hi3 hm3 ⊢
            have hz3 := hb3.size
            have hr3 := HR2.out.below hb3 (by omega)
            have ho3 := HO2.out.trans (OnlyIn.of_below hb3)
            obtain ⟨r0, r1, r2, r3, g0, g1, g2, g3⟩ := HZZ2.out.below hb3 (by omega)
            have HI3 := Lib.hid hi3; clear hi3; have HM3 := Lib.hid hm3; clear hm3; have HR3 := Lib.hid hr3; clear hr3; have HO3 := Lib.hid ho3; clear ho3; have HB3 := Lib.hid hb3; clear hb3; have HNB := Lib.hid hnb; clear hnb
            go_wp2_with fail
            refine bodyPost_ret (v := .agg #[.int .i64 2, .int .i64 n, .string ⟨#[]⟩, .slice sa sm.length sc]) (by simp [results, Tryd.results63, go_sem, r0, r1, r2, r3]) rfl ?_
            refine ⟨2, n, ⟨#[]⟩, [], sa, sc, sm, p, false, rfl, HI3.out, ?_, ?_, ?_, hap, by omega, fun _ => ⟨hps, by rw [HAT.out, HAT1.out]⟩, fun h => by cases h⟩
            · (exact M.Mine.mono (M.Mine.keep HM3.out (fun b hb1 hb2 => by (try simp at hb1); simp (disch := (first | omega | (simp; omega))) only [heapSet, heapNew, heapDrew, heapDrewN])) (by first | omega | (simp; done) | (simp; omega)))
            · exact HR3.out.below (B := w.heap.size) (by (repeat (first | with_reducible assumption | with_reducible exact Below.refl _ _ | with_reducible refine Below.drew ?_ | with_reducible refine belowDrewN ?_ _ | ((with_reducible refine Below.setCell ?_ ?_ _); rotate_left; focus (first | omega | (simp; done) | (simp; omega))) | ((with_reducible refine Below.alloc ?_ ?_ _); rotate_left; focus (first | omega | (simp; done) | (simp; omega)))))) hpw
            · exact HO3.out.thenBelow (by (repeat (first | with_reducible assumption | with_reducible exact Below.refl _ _ | with_reducible refine Below.drew ?_ | with_reducible refine belowDrewN ?_ _ | ((with_reducible refine Below.setCell ?_ ?_ _); rotate_left; focus (first | omega | (simp; done) | (simp; omega))) | ((with_reducible refine Below.alloc ?_ ?_ _); rotate_left; focus (first | omega | (simp; done) | (simp; omega))))))
          | none =>
            simp only [numV]
            by_cases ht : T = ⟨#[35, 116]⟩
            · have hat1 : atomD T = some (.mk 3 1 ⟨#[]⟩ []) := by rw [ht]; exact atomD_tr
              have hsb : (T.toList == [35, 116]) = true := by rw [ht]; simp [ByteArray.toList_eq]
              have HAT1 := Lib.hid hat1; clear hat1; have HN := Lib.hid hn; clear hn; have HT := Lib.hid ht; clear ht
              go_wp2_with fail
              refine (sBooleanDatum_calls true _).mono ?_
              rintro e w3 ⟨sa, sc, sm, rfl, hi3, hm3, hb3⟩
              simp only [Dat.k_mk, Dat.n_mk, Dat.s_mk, Dat.ds_mk, bnum, if_true] at hi3 hm3 ⊢
              have hz3 := hb3.size
              have hr3 := HR2.out.below hb3 (by omega)
              have ho3 := HO2.out.trans (OnlyIn.of_below hb3)
              obtain ⟨r0, r1, r2, r3, g0, g1, g2, g3⟩ := HZZ2.out.below hb3 (by omega)
              have HI3 := Lib.hid hi3; clear hi3; have HM3 := Lib.hid hm3; clear hm3; have HR3 := Lib.hid hr3; clear hr3; have HO3 := Lib.hid ho3; clear ho3; have HB3 := Lib.hid hb3; clear hb3
              go_wp2_with fail
              refine bodyPost_ret (v := .agg #[.int .i64 3, .int .i64 1, .string ⟨#[]⟩, .slice sa sm.length sc]) (by simp [results, Tryd.results63, go_sem, r0, r1, r2, r3]) rfl ?_
              refine ⟨3, 1, ⟨#[]⟩, [], sa, sc, sm, p, false, rfl, HI3.out, ?_, ?_, ?_, hap, by omega, fun _ => ⟨hps, by rw [HAT.out, HAT1.out]⟩, fun h => by cases h⟩
              · (exact M.Mine.mono (M.Mine.keep HM3.out (fun b hb1 hb2 => by (try simp at hb1); simp (disch := (first | omega | (simp; omega))) only [heapSet, heapNew, heapDrew, heapDrewN])) (by first | omega | (simp; done) | (simp; omega)))
              · exact HR3.out.below (B := w.heap.size) (by (repeat (first | with_reducible assumption | with_reducible exact Below.refl _ _ | with_reducible refine Below.drew ?_ | with_reducible refine belowDrewN ?_ _ | ((with_reducible refine Below.setCell ?_ ?_ _); rotate_left; focus (first | omega | (simp; done) | (simp; omega))) | ((with_reducible refine Below.alloc ?_ ?_ _); rotate_left; focus (first | omega | (simp; done) | (simp; omega)))))) hpw
              · exact HO3.out.thenBelow (by (repeat (first | with_reducible assumption | with_reducible exact Below.refl _ _ | with_reducible refine Below.drew ?_ | with_reducible refine belowDrewN ?_ _ | ((with_reducible refine Below.setCell ?_ ?_ _); rotate_left; focus (first | omega | (simp; done) | (simp; omega))) | ((with_reducible refine Below.alloc ?_ ?_ _); rotate_left; focus (first | omega | (simp; done) | (simp; omega))))))
            by_cases hf : T = ⟨#[35, 102]⟩
            · have hat1 : atomD T = some (.mk 3 0 ⟨#[]⟩ []) := by rw [hf]; exact atomD_fa
              have hsb : (T.toList == [35, 116]) = false := ba_tr ht
              have hsb2 : (T.toList == [35, 102]) = true := by rw [hf]; simp [ByteArray.toList_eq]
              have HAT1 := Lib.hid hat1; clear hat1; have HN := Lib.hid hn; clear hn; have HT := Lib.hid ht; clear ht; have HF := Lib.hid hf; clear hf
              go_wp2_with fail
              refine (sBooleanDatum_calls false _).mono ?_
              rintro e w3 ⟨sa, sc, sm, rfl, hi3, hm3, hb3⟩
              simp only [Dat.k_mk, Dat.n_mk, Dat.s_mk, Dat.ds_mk, bnum, Bool.false_eq_true, if_false] at hi3 hm3 ⊢
              have hz3 := hb3.size
              have hr3 := HR2.out.below hb3 (by omega)
              have ho3 := HO2.out.trans (OnlyIn.of_below hb3)
              obtain ⟨r0, r1, r2, r3, g0, g1, g2, g3⟩ := HZZ2.out.below hb3 (by omega)
              have HI3 := Lib.hid hi3; clear hi3; have HM3 := Lib.hid hm3; clear hm3; have HR3 := Lib.hid hr3; clear hr3; have HO3 := Lib.hid ho3; clear ho3; have HB3 := Lib.hid hb3; clear hb3
              go_wp2_with fail
              refine bodyPost_ret (v := .agg #[.int .i64 3, .int .i64 0, .string ⟨#[]⟩, .slice sa sm.length sc]) (by simp [results, Tryd.results63, go_sem, r0, r1, r2, r3]) rfl ?_
              refine ⟨3, 0, ⟨#[]⟩, [], sa, sc, sm, p, false, rfl, HI3.out, ?_, ?_, ?_, hap, by omega, fun _ => ⟨hps, by rw [HAT.out, HAT1.out]⟩, fun h => by cases h⟩
              · (exact M.Mine.mono (M.Mine.keep HM3.out (fun b hb1 hb2 => by (try simp at hb1); simp (disch := (first | omega | (simp; omega))) only [heapSet, heapNew, heapDrew, heapDrewN])) (by first | omega | (simp; done) | (simp; omega)))
              · exact HR3.out.below (B := w.heap.size) (by (repeat (first | with_reducible assumption | with_reducible exact Below.refl _ _ | with_reducible refine Below.drew ?_ | with_reducible refine belowDrewN ?_ _ | ((with_reducible refine Below.setCell ?_ ?_ _); rotate_left; focus (first | omega | (simp; done) | (simp; omega))) | ((with_reducible refine Below.alloc ?_ ?_ _); rotate_left; focus (first | omega | (simp; done) | (simp; omega)))))) hpw
              · exact HO3.out.thenBelow (by (repeat (first | with_reducible assumption | with_reducible exact Below.refl _ _ | with_reducible refine Below.drew ?_ | with_reducible refine belowDrewN ?_ _ | ((with_reducible refine Below.setCell ?_ ?_ _); rotate_left; focus (first | omega | (simp; done) | (simp; omega))) | ((with_reducible refine Below.alloc ?_ ?_ _); rotate_left; focus (first | omega | (simp; done) | (simp; omega))))))
            have hsb1 := ba_tr ht
            have hsb2 := ba_fa hf
            cases hy : isSymB T with
            | true =>
              have hat1 := atomD_isSym hy
              have HAT1 := Lib.hid hat1; clear hat1; have HN := Lib.hid hn; clear hn; have HT := Lib.hid ht; clear ht; have HF := Lib.hid hf; clear hf
              go_wp2_with fail
              refine (sIsSymbol_calls T _ (by omega)).mono ?_
              rintro e w3 ⟨rfl, rfl⟩
              rw [hy]
              go_wp2_with fail
              refine (sSymbolDatum_calls T _ (by omega)).mono ?_
              rintro e w3 ⟨sa, sc, sm, rfl, hi3, hm3, hb3⟩
              simp only [hy, Dat.k_mk, Dat.n_mk, Dat.s_mk, Dat.ds_mk, onlyN_t, onlyS_t] at hi3 hm3 ⊢
              have hz3 := hb3.size
              have hr3 := HR2.out.below hb3 (by omega)
              have ho3 := HO2.out.trans (OnlyIn.of_below hb3)
              obtain ⟨r0, r1, r2, r3, g0, g1, g2, g3⟩ := HZZ2.out.below hb3 (by omega)
              have HI3 := Lib.hid hi3; clear hi3; have HM3 := Lib.hid hm3; clear hm3; have HR3 := Lib.hid hr3; clear hr3; have HO3 := Lib.hid ho3; clear ho3; have HB3 := Lib.hid hb3; clear hb3; have HY := Lib.hid hy; clear hy
              go_wp2_with fail
              refine bodyPost_ret (v := .agg #[.int .i64 1, .int .i64 0, .string T, .slice sa sm.length sc]) (by simp [results, Tryd.results63, go_sem, r0, r1, r2, r3]) rfl ?_
              refine ⟨1, 0, T, [], sa, sc, sm, p, false, rfl, HI3.out, ?_, ?_, ?_, hap, by omega, fun _ => ⟨hps, by rw [HAT.out, HAT1.out]⟩, fun h => by cases h⟩
              · (exact M.Mine.mono (M.Mine.keep HM3.out (fun b hb1 hb2 => by (try simp at hb1); simp (disch := (first | omega | (simp; omega))) only [heapSet, heapNew, heapDrew, heapDrewN])) (by first | omega | (simp; done) | (simp; omega)))
              · exact HR3.out.below (B := w.heap.size) (by (repeat (first | with_reducible assumption | with_reducible exact Below.refl _ _ | with_reducible refine Below.drew ?_ | with_reducible refine belowDrewN ?_ _ | ((with_reducible refine Below.setCell ?_ ?_ _); rotate_left; focus (first | omega | (simp; done) | (simp; omega))) | ((with_reducible refine Below.alloc ?_ ?_ _); rotate_left; focus (first | omega | (simp; done) | (simp; omega)))))) hpw
              · exact HO3.out.thenBelow (by (repeat (first | with_reducible assumption | with_reducible exact Below.refl _ _ | with_reducible refine Below.drew ?_ | with_reducible refine belowDrewN ?_ _ | ((with_reducible refine Below.setCell ?_ ?_ _); rotate_left; focus (first | omega | (simp; done) | (simp; omega))) | ((with_reducible refine Below.alloc ?_ ?_ _); rotate_left; focus (first | omega | (simp; done) | (simp; omega))))))
            | false =>
              have hat1 := atomD_none hn ht hf hy
              have HAT1 := Lib.hid hat1; clear hat1; have HN := Lib.hid hn; clear hn; have HT := Lib.hid ht; clear ht; have HF := Lib.hid hf; clear hf
              go_wp2_with fail
              refine (sIsSymbol_calls T _ (by omega)).mono ?_
              rintro e w3 ⟨rfl, rfl⟩
              rw [hy]
              obtain ⟨r0, r1, r2, r3, g0, g1, g2, g3⟩ := HZZ2.out
              obtain ⟨c0, c1, c2, f1, f2⟩ := id HR2.out
              have hr3 := HR2.out.set2 (.bool true)
              have ho3 := HO2.out.put 2 (.bool true)
              have HR3 := Lib.hid hr3; clear hr3; have HO3 := Lib.hid ho3; clear ho3
              go_wp2_with fail
              refine bodyPost_ret (v := .agg #[.int .i64 0, .int .i64 0, .string ⟨#[]⟩, .slice none 0 0]) (by simp [results, Tryd.results63, go_sem, r0, r1, r2, r3]) rfl ?_
              refine ⟨0, 0, ⟨#[]⟩, [], none, 0, [], p, true, rfl, rfl, M.Mine.nil _ _ _ _ (by decide), ?_, ?_, hap, by omega, fun h => (by cases h), fun _ => by rw [HAT.out, HAT1.out]⟩
              · exact HR3.out.below (B := w.heap.size) (by (repeat (first | with_reducible assumption | with_reducible exact Below.refl _ _ | with_reducible refine Below.drew ?_ | with_reducible refine belowDrewN ?_ _ | ((with_reducible refine Below.setCell ?_ ?_ _); rotate_left; focus (first | omega | (simp; done) | (simp; omega))) | ((with_reducible refine Below.alloc ?_ ?_ _); rotate_left; focus (first | omega | (simp; done) | (simp; omega)))))) hpw
              · exact HO3.out.thenBelow (by (repeat (first | with_reducible assumption | with_reducible exact Below.refl _ _ | with_reducible refine Below.drew ?_ | with_reducible refine belowDrewN ?_ _ | ((with_reducible refine Below.setCell ?_ ?_ _); rotate_left; focus (first | omega | (simp; done) | (simp; omega))) | ((with_reducible refine Below.alloc ?_ ?_ _); rotate_left; focus (first | omega | (simp; done) | (simp; omega))))))
        | false =>
          rw [endB_split, hbl, Bool.false_or] at hnb
          have hbk : ∀ W, Calls Tryd.prog 59 #[.int .u8 (b.toNat : Int)] W (fun e w' => e = .returned (.bool false) ∧ w' = W) := fun W => by have := RetEq.same (l1Blank_calls b W); rwa [hbl] at this
          have hen : ∀ W, Calls Tryd.prog 85 #[.int .u8 (b.toNat : Int)] W (fun e w' => e = .returned (.bool true) ∧ w' = W) := fun W => by have := RetEq.same (l1Ends_calls b W); rwa [hnb] at this
          have HD := Lib.hid hd; clear hd; have HSP := Lib.hid hsp; clear hsp; have HR := Lib.hid hr; clear hr; have HO := Lib.hid ho; clear ho; have HZ := Lib.hid hz; clear hz; have HNB := Lib.hid hnb; clear hnb; have HBK := Lib.hid hbk; clear hbk; have HBL := Lib.hid hbl; clear hbl; have HEN := Lib.hid hen; clear hen; have HAT := Lib.hid hat; clear hat; have HEX := Lib.hid hex; clear hex
          go_wp2_with fail
          go_quiet (first | (go_at_call 59; (with_reducible refine Calls.quiet_of_same (HBK.out _))) | (go_at_call 85; (with_reducible refine Calls.quiet_of_same (HEN.out _))) | fail)
          have hzw := HZ.out.lt
          have hpr := HR.out.lt
          go_wp2_with fail
          go_quiet (fail)
          go_wp2_with fail
          rw [HEX.out]
          refine (sParseNumber_calls T _ (by omega)).mono ?_
          rintro e w2 ⟨rfl, hb2⟩
          have hz2 := hb2.size
          simp only [sizeDrewN] at hz2
          have hr2 : RdAt pb s p (.bool false) w2 := (HR.out.drewN _).below hb2 (by simpa only [sizeDrewN] using hpr)
          have ho2 : OnlyIn pb (pb + 1) w w2 := (HO.out.drewN _).trans (OnlyIn.of_below hb2)
          have hzz2 : Zero w.heap.size w2 := (HZ.out.of (w' := wr.drewN _) rfl).below hb2 (by simpa only [sizeDrewN] using hzw)
          clear c0 c1 c2 f1 f2
          have HR2 := Lib.hid hr2; clear hr2; have HO2 := Lib.hid ho2; clear ho2; have HZZ2 := Lib.hid hzz2; clear hzz2; have HB2 := Lib.hid hb2; clear hb2
          cases hn : numOf T.data.toList with
          | some n =>
            have hat1 := atomD_some hn
            have hnb : numB n = true := by have := numOf_some hn; simp [numB, inB]; omega
            simp only [numV]
            have HAT1 := Lib.hid hat1; clear hat1; have HN := Lib.hid hn; clear hn
            go_wp2_with fail
            refine (sNumberDatum_calls n _).mono ?_
            rintro e w3 ⟨sa, sc, sm, rfl, hi3, hm3, hb3⟩
            simp only [hnb, Dat.k_mk, Dat.n_mk, Dat.s_mk, Dat.ds_mk, onlyN_t] at hi3 hm3 ⊢
            have hz3 := hb3.size
            have hr3 := HR2.out.below hb3 (by omega)
            have ho3 := HO2.out.trans (OnlyIn.of_below hb3)
            obtain ⟨r0, r1, r2, r3, g0, g1, g2, g3⟩ := HZZ2.out.below hb3 (by omega)
            have HI3 := Lib.hid hi3; clear hi3; have HM3 := Lib.hid hm3; clear hm3; have HR3 := Lib.hid hr3; clear hr3; have HO3 := Lib.hid ho3; clear ho3; have HB3 := Lib.hid hb3; clear hb3; have HNB := Lib.hid hnb; clear hnb
            go_wp2_with fail
            refine bodyPost_ret (v := .agg #[.int .i64 2, .int .i64 n, .string ⟨#[]⟩, .slice sa sm.length sc]) (by simp [results, Tryd.results63, go_sem, r0, r1, r2, r3]) rfl ?_
            refine ⟨2, n, ⟨#[]⟩, [], sa, sc, sm, p, false, rfl, HI3.out, ?_, ?_, ?_, hap, by omega, fun _ => ⟨hps, by rw [HAT.out, HAT1.out]⟩, fun h => by cases h⟩
            · (exact M.Mine.mono (M.Mine.keep HM3.out (fun b hb1 hb2 => by (try simp at hb1); simp (disch := (first | omega | (simp; omega))) only [heapSet, heapNew, heapDrew, heapDrewN])) (by first | omega | (simp; done) | (simp; omega)))
            · exact HR3.out.below (B := w.heap.size) (by (repeat (first | with_reducible assumption | with_reducible exact Below.refl _ _ | with_reducible refine Below.drew ?_ | with_reducible refine belowDrewN ?_ _ | ((with_reducible refine Below.setCell ?_ ?_ _); rotate_left; focus (first | omega | (simp; done) | (simp; omega))) | ((with_reducible refine Below.alloc ?_ ?_ _); rotate_left; focus (first | omega | (simp; done) | (simp; omega)))))) hpw
            · exact HO3.out.thenBelow (by (repeat (first | with_reducible assumption | with_reducible exact Below.refl _ _ | with_reducible refine Below.drew ?_ | with_reducible refine belowDrewN ?_ _ | ((with_reducible refine Below.setCell ?_ ?_ _); rotate_left; focus (first | omega | (simp; done) | (simp; omega))) | ((with_reducible refine Below.alloc ?_ ?_ _); rotate_left; focus (first | omega | (simp; done) | (simp; omega))))))
          | none =>
            simp only [numV]
            by_cases ht : T = ⟨#[35, 116]⟩
            · have hat1 : atomD T = some (.mk 3 1 ⟨#[]⟩ []) := by rw [ht]; exact atomD_tr
              have hsb : (T.toList == [35, 116]) = true := by rw [ht]; simp [ByteArray.toList_eq]
              have HAT1 := Lib.hid hat1; clear hat1; have HN := Lib.hid hn; clear hn; have HT := Lib.hid ht; clear ht
              go_wp2_with fail
              refine (sBooleanDatum_calls true _).mono ?_
              rintro e w3 ⟨sa, sc, sm, rfl, hi3, hm3, hb3⟩
              simp only [Dat.k_mk, Dat.n_mk, Dat.s_mk, Dat.ds_mk, bnum, if_true] at hi3 hm3 ⊢
              have hz3 := hb3.size
              have hr3 := HR2.out.below hb3 (by omega)
              have ho3 := HO2.out.trans (OnlyIn.of_below hb3)
              obtain ⟨r0, r1, r2, r3, g0, g1, g2, g3⟩ := HZZ2.out.below hb3 (by omega)
              have HI3 := Lib.hid hi3; clear hi3; have HM3 := Lib.hid hm3; clear hm3; have HR3 := Lib.hid hr3; clear hr3; have HO3 := Lib.hid ho3; clear ho3; have HB3 := Lib.hid hb3; clear hb3
              go_wp2_with fail
              refine bodyPost_ret (v := .agg #[.int .i64 3, .int .i64 1, .string ⟨#[]⟩, .slice sa sm.length sc]) (by simp [results, Tryd.results63, go_sem, r0, r1, r2, r3]) rfl ?_
              refine ⟨3, 1, ⟨#[]⟩, [], sa, sc, sm, p, false, rfl, HI3.out, ?_, ?_, ?_, hap, by omega, fun _ => ⟨hps, by rw [HAT.out, HAT1.out]⟩, fun h => by cases h⟩
              · (exact M.Mine.mono (M.Mine.keep HM3.out (fun b hb1 hb2 => by (try simp at hb1); simp (disch := (first | omega | (simp; omega))) only [heapSet, heapNew, heapDrew, heapDrewN])) (by first | omega | (simp; done) | (simp; omega)))
              · exact HR3.out.below (B := w.heap.size) (by (repeat (first | with_reducible assumption | with_reducible exact Below.refl _ _ | with_reducible refine Below.drew ?_ | with_reducible refine belowDrewN ?_ _ | ((with_reducible refine Below.setCell ?_ ?_ _); rotate_left; focus (first | omega | (simp; done) | (simp; omega))) | ((with_reducible refine Below.alloc ?_ ?_ _); rotate_left; focus (first | omega | (simp; done) | (simp; omega)))))) hpw
              · exact HO3.out.thenBelow (by (repeat (first | with_reducible assumption | with_reducible exact Below.refl _ _ | with_reducible refine Below.drew ?_ | with_reducible refine belowDrewN ?_ _ | ((with_reducible refine Below.setCell ?_ ?_ _); rotate_left; focus (first | omega | (simp; done) | (simp; omega))) | ((with_reducible refine Below.alloc ?_ ?_ _); rotate_left; focus (first | omega | (simp; done) | (simp; omega))))))
            by_cases hf : T = ⟨#[35, 102]⟩
            · have hat1 : atomD T = some (.mk 3 0 ⟨#[]⟩ []) := by rw [hf]; exact atomD_fa
              have hsb : (T.toList == [35, 116]) = false := ba_tr ht
              have hsb2 : (T.toList == [35, 102]) = true := by rw [hf]; simp [ByteArray.toList_eq]
              have HAT1 := Lib.hid hat1; clear hat1; have HN := Lib.hid hn; clear hn; have HT := Lib.hid ht; clear ht; have HF := Lib.hid hf; clear hf
              go_wp2_with fail
              refine (sBooleanDatum_calls false _).mono ?_
              rintro e w3 ⟨sa, sc, sm, rfl, hi3, hm3, hb3⟩
              simp only [Dat.k_mk, Dat.n_mk, Dat.s_mk, Dat.ds_mk, bnum, Bool.false_eq_true, if_false] at hi3 hm3 ⊢
              have hz3 := hb3.size
              have hr3 := HR2.out.below hb3 (by omega)
              have ho3 := HO2.out.trans (OnlyIn.of_below hb3)
              obtain ⟨r0, r1, r2, r3, g0, g1, g2, g3⟩ := HZZ2.out.below hb3 (by omega)
              have HI3 := Lib.hid hi3; clear hi3; have HM3 := Lib.hid hm3; clear hm3; have HR3 := Lib.hid hr3; clear hr3; have HO3 := Lib.hid ho3; clear ho3; have HB3 := Lib.hid hb3; clear hb3
              go_wp2_with fail
              refine bodyPost_ret (v := .agg #[.int .i64 3, .int .i64 0, .string ⟨#[]⟩, .slice sa sm.length sc]) (by simp [results, Tryd.results63, go_sem, r0, r1, r2, r3]) rfl ?_
              refine ⟨3, 0, ⟨#[]⟩, [], sa, sc, sm, p, false, rfl, HI3.out, ?_, ?_, ?_, hap, by omega, fun _ => ⟨hps, by rw [HAT.out, HAT1.out]⟩, fun h => by cases h⟩
              · (exact M.Mine.mono (M.Mine.keep HM3.out (fun b hb1 hb2 => by (try simp at hb1); simp (disch := (first | omega | (simp; omega))) only [heapSet, heapNew, heapDrew, heapDrewN])) (by first | omega | (simp; done) | (simp; omega)))
              · exact HR3.out.below (B := w.heap.size) (by (repeat (first | with_reducible assumption | with_reducible exact Below.refl _ _ | with_reducible refine Below.drew ?_ | with_reducible refine belowDrewN ?_ _ | ((with_reducible refine Below.setCell ?_ ?_ _); rotate_left; focus (first | omega | (simp; done) | (simp; omega))) | ((with_reducible refine Below.alloc ?_ ?_ _); rotate_left; focus (first | omega | (simp; done) | (simp; omega)))))) hpw
              · exact HO3.out.thenBelow (by (repeat (first | with_reducible assumption | with_reducible exact Below.refl _ _ | with_reducible refine Below.drew ?_ | with_reducible refine belowDrewN ?_ _ | ((with_reducible refine Below.setCell ?_ ?_ _); rotate_left; focus (first | omega | (simp; done) | (simp; omega))) | ((with_reducible refine Below.alloc ?_ ?_ _); rotate_left; focus (first | omega | (simp; done) | (simp; omega))))))
            have hsb1 := ba_tr ht
            have hsb2 := ba_fa hf
            cases hy : isSymB T with
            | true =>
              have hat1 := atomD_isSym hy
              have HAT1 := Lib.hid hat1; clear hat1; have HN := Lib.hid hn; clear hn; have HT := Lib.hid ht; clear ht; have HF := Lib.hid hf; clear hf
              go_wp2_with fail
              refine (sIsSymbol_calls T _ (by omega)).mono ?_
              rintro e w3 ⟨rfl, rfl⟩
              rw [hy]
              go_wp2_with fail
              refine (sSymbolDatum_calls T _ (by omega)).mono ?_
              rintro e w3 ⟨sa, sc, sm, rfl, hi3, hm3, hb3⟩
              simp only [hy, Dat.k_mk, Dat.n_mk, Dat.s_mk, Dat.ds_mk, onlyN_t, onlyS_t] at hi3 hm3 ⊢
              have hz3 := hb3.size
              have hr3 := HR2.out.below hb3 (by omega)
              have ho3 := HO2.out.trans (OnlyIn.of_below hb3)
              obtain ⟨r0, r1, r2, r3, g0, g1, g2, g3⟩ := HZZ2.out.below hb3 (by omega)
              have HI3 := Lib.hid hi3; clear hi3; have HM3 := Lib.hid hm3; clear hm3; have HR3 := Lib.hid hr3; clear hr3; have HO3 := Lib.hid ho3; clear ho3; have HB3 := Lib.hid hb3; clear hb3; have HY := Lib.hid hy; clear hy
              go_wp2_with fail
              refine bodyPost_ret (v := .agg #[.int .i64 1, .int .i64 0, .string T, .slice sa sm.length sc]) (by simp [results, Tryd.results63, go_sem, r0, r1, r2, r3]) rfl ?_
              refine ⟨1, 0, T, [], sa, sc, sm, p, false, rfl, HI3.out, ?_, ?_, ?_, hap, by omega, fun _ => ⟨hps, by rw [HAT.out, HAT1.out]⟩, fun h => by cases h⟩
              · (exact M.Mine.mono (M.Mine.keep HM3.out (fun b hb1 hb2 => by (try simp at hb1); simp (disch := (first | omega | (simp; omega))) only [heapSet, heapNew, heapDrew, heapDrewN])) (by first | omega | (simp; done) | (simp; omega)))
              · exact HR3.out.below (B := w.heap.size) (by (repeat (first | with_reducible assumption | with_reducible exact Below.refl _ _ | with_reducible refine Below.drew ?_ | with_reducible refine belowDrewN ?_ _ | ((with_reducible refine Below.setCell ?_ ?_ _); rotate_left; focus (first | omega | (simp; done) | (simp; omega))) | ((with_reducible refine Below.alloc ?_ ?_ _); rotate_left; focus (first | omega | (simp; done) | (simp; omega)))))) hpw
              · exact HO3.out.thenBelow (by (repeat (first | with_reducible assumption | with_reducible exact Below.refl _ _ | with_reducible refine Below.drew ?_ | with_reducible refine belowDrewN ?_ _ | ((with_reducible refine Below.setCell ?_ ?_ _); rotate_left; focus (first | omega | (simp; done) | (simp; omega))) | ((with_reducible refine Below.alloc ?_ ?_ _); rotate_left; focus (first | omega | (simp; done) | (simp; omega))))))
            | false =>
              have hat1 := atomD_none hn ht hf hy
              have HAT1 := Lib.hid hat1; clear hat1; have HN := Lib.hid hn; clear hn; have HT := Lib.hid ht; clear ht; have HF := Lib.hid hf; clear hf
              go_wp2_with fail
              refine (sIsSymbol_calls T _ (by omega)).mono ?_
              rintro e w3 ⟨rfl, rfl⟩
              rw [hy]
              obtain ⟨r0, r1, r2, r3, g0, g1, g2, g3⟩ := HZZ2.out
              obtain ⟨c0, c1, c2, f1, f2⟩ := id HR2.out
              have hr3 := HR2.out.set2 (.bool true)
              have ho3 := HO2.out.put 2 (.bool true)
              have HR3 := Lib.hid hr3; clear hr3; have HO3 := Lib.hid ho3; clear ho3
              go_wp2_with fail
              refine bodyPost_ret (v := .agg #[.int .i64 0, .int .i64 0, .string ⟨#[]⟩, .slice none 0 0]) (by simp [results, Tryd.results63, go_sem, r0, r1, r2, r3]) rfl ?_
              refine ⟨0, 0, ⟨#[]⟩, [], none, 0, [], p, true, rfl, rfl, M.Mine.nil _ _ _ _ (by decide), ?_, ?_, hap, by omega, fun h => (by cases h), fun _ => by rw [HAT.out, HAT1.out]⟩
              · exact HR3.out.below (B := w.heap.size) (by (repeat (first | with_reducible assumption | with_reducible exact Below.refl _ _ | with_reducible refine Below.drew ?_ | with_reducible refine belowDrewN ?_ _ | ((with_reducible refine Below.setCell ?_ ?_ _); rotate_left; focus (first | omega | (simp; done) | (simp; omega))) | ((with_reducible refine Below.alloc ?_ ?_ _); rotate_left; focus (first | omega | (simp; done) | (simp; omega)))))) hpw
              · exact HO3.out.thenBelow (by (repeat (first | with_reducible assumption | with_reducible exact Below.refl _ _ | with_reducible refine Below.drew ?_ | with_reducible refine belowDrewN ?_ _ | ((with_reducible refine Below.setCell ?_ ?_ _); rotate_left; focus (first | omega | (simp; done) | (simp; omega))) | ((with_reducible refine Below.alloc ?_ ?_ _); rotate_left; focus (first | omega | (simp; done) | (simp; omega))))))
    · have hpe : p = s.size := by omega
      obtain ⟨hst1, hst2, hst3⟩ := hsp.out (by simpa using hpe ▸ Nat.le_refl p)
      have hex := extract_eq hst1.symm
      obtain ⟨T, hT⟩ : ∃ T : ByteArray, T = ⟨((s.data.toList.drop a).takeWhile runB).toArray⟩ := ⟨_, rfl⟩
      rw [← hT] at hex
      have hTs : T.size ≤ s.size := by rw [← hex, ByteArray.size_extract]; omega
      have hat : atomR (s.data.toList.drop a) = (match atomD T with | none => none | some d => some (d, s.data.toList.drop p)) := by unfold atomR; rw [← hT, hst2]; rfl
      clear hst1 hst2 hst3 hT hpe
      have HSP := Lib.hid hsp; clear hsp; have HR := Lib.hid hr; clear hr; have HO := Lib.hid ho; clear ho; have HZ := Lib.hid hz; clear hz; have HAT := Lib.hid hat; clear hat; have HEX := Lib.hid hex; clear hex
      go_wp2_with fail
      go_quiet (fail)
      have hzw := HZ.out.lt
      have hpr := HR.out.lt
      go_wp2_with fail
      go_quiet (fail)
      go_wp2_with fail
      rw [HEX.out]
      refine (sParseNumber_calls T _ (by omega)).mono ?_
      rintro e w2 ⟨rfl, hb2⟩
      have hz2 := hb2.size
      simp only [sizeDrewN] at hz2
      have hr2 : RdAt pb s p (.bool false) w2 := (HR.out.drewN _).below hb2 (by simpa only [sizeDrewN] using hpr)
      have ho2 : OnlyIn pb (pb + 1) w w2 := (HO.out.drewN _).trans (OnlyIn.of_below hb2)
      have hzz2 : Zero w.heap.size w2 := (HZ.out.of (w' := wr.drewN _) rfl).below hb2 (by simpa only [sizeDrewN] using hzw)
      clear c0 c1 c2 f1 f2
      have HR2 := Lib.hid hr2; clear hr2; have HO2 := Lib.hid ho2; clear ho2; have HZZ2 := Lib.hid hzz2; clear hzz2; have HB2 := Lib.hid hb2; clear hb2
      cases hn : numOf T.data.toList with
      | some n =>
        have hat1 := atomD_some hn
        have hnb : numB n = true := by have := numOf_some hn; simp [numB, inB]; omega
        simp only [numV]
        have HAT1 := Lib.hid hat1; clear hat1; have HN := Lib.hid hn; clear hn
        go_wp2_with fail
        refine (sNumberDatum_calls n _).mono ?_
        rintro e w3 ⟨sa, sc, sm, rfl, hi3, hm3, hb3⟩
        simp only [hnb, Dat.k_mk, Dat.n_mk, Dat.s_mk, Dat.ds_mk, onlyN_t] at hi3 hm3 ⊢
        have hz3 := hb3.size
        have hr3 := HR2.out.below hb3 (by omega)
        have ho3 := HO2.out.trans (OnlyIn.of_below hb3)
        obtain ⟨r0, r1, r2, r3, g0, g1, g2, g3⟩ := HZZ2.out.below hb3 (by omega)
        have HI3 := Lib.hid hi3; clear hi3; have HM3 := Lib.hid hm3; clear hm3; have HR3 := Lib.hid hr3; clear hr3; have HO3 := Lib.hid ho3; clear ho3; have HB3 := Lib.hid hb3; clear hb3; have HNB := Lib.hid hnb; clear hnb
        go_wp2_with fail
        refine bodyPost_ret (v := .agg #[.int .i64 2, .int .i64 n, .string ⟨#[]⟩, .slice sa sm.length sc]) (by simp [results, Tryd.results63, go_sem, r0, r1, r2, r3]) rfl ?_
        refine ⟨2, n, ⟨#[]⟩, [], sa, sc, sm, p, false, rfl, HI3.out, ?_, ?_, ?_, hap, by omega, fun _ => ⟨hps, by rw [HAT.out, HAT1.out]⟩, fun h => by cases h⟩
        · (exact M.Mine.mono (M.Mine.keep HM3.out (fun b hb1 hb2 => by (try simp at hb1); simp (disch := (first | omega | (simp; omega))) only [heapSet, heapNew, heapDrew, heapDrewN])) (by first | omega | (simp; done) | (simp; omega)))
        · exact HR3.out.below (B := w.heap.size) (by (repeat (first | with_reducible assumption | with_reducible exact Below.refl _ _ | with_reducible refine Below.drew ?_ | with_reducible refine belowDrewN ?_ _ | ((with_reducible refine Below.setCell ?_ ?_ _); rotate_left; focus (first | omega | (simp; done) | (simp; omega))) | ((with_reducible refine Below.alloc ?_ ?_ _); rotate_left; focus (first | omega | (simp; done) | (simp; omega)))))) hpw
        · exact HO3.out.thenBelow (by (repeat (first | with_reducible assumption | with_reducible exact Below.refl _ _ | with_reducible refine Below.drew ?_ | with_reducible refine belowDrewN ?_ _ | ((with_reducible refine Below.setCell ?_ ?_ _); rotate_left; focus (first | omega | (simp; done) | (simp; omega))) | ((with_reducible refine Below.alloc ?_ ?_ _); rotate_left; focus (first | omega | (simp; done) | (simp; omega))))))
      | none =>
        simp only [numV]
        by_cases ht : T = ⟨#[35, 116]⟩
        · have hat1 : atomD T = some (.mk 3 1 ⟨#[]⟩ []) := by rw [ht]; exact atomD_tr
          have hsb : (T.toList == [35, 116]) = true := by rw [ht]; simp [ByteArray.toList_eq]
          have HAT1 := Lib.hid hat1; clear hat1; have HN := Lib.hid hn; clear hn; have HT := Lib.hid ht; clear ht
          go_wp2_with fail
          refine (sBooleanDatum_calls true _).mono ?_
          rintro e w3 ⟨sa, sc, sm, rfl, hi3, hm3, hb3⟩
          simp only [Dat.k_mk, Dat.n_mk, Dat.s_mk, Dat.ds_mk, bnum, if_true] at hi3 hm3 ⊢
          have hz3 := hb3.size
          have hr3 := HR2.out.below hb3 (by omega)
          have ho3 := HO2.out.trans (OnlyIn.of_below hb3)
          obtain ⟨r0, r1, r2, r3, g0, g1, g2, g3⟩ := HZZ2.out.below hb3 (by omega)
          have HI3 := Lib.hid hi3; clear hi3; have HM3 := Lib.hid hm3; clear hm3; have HR3 := Lib.hid hr3; clear hr3; have HO3 := Lib.hid ho3; clear ho3; have HB3 := Lib.hid hb3; clear hb3
          go_wp2_with fail
          refine bodyPost_ret (v := .agg #[.int .i64 3, .int .i64 1, .string ⟨#[]⟩, .slice sa sm.length sc]) (by simp [results, Tryd.results63, go_sem, r0, r1, r2, r3]) rfl ?_
          refine ⟨3, 1, ⟨#[]⟩, [], sa, sc, sm, p, false, rfl, HI3.out, ?_, ?_, ?_, hap, by omega, fun _ => ⟨hps, by rw [HAT.out, HAT1.out]⟩, fun h => by cases h⟩
          · (exact M.Mine.mono (M.Mine.keep HM3.out (fun b hb1 hb2 => by (try simp at hb1); simp (disch := (first | omega | (simp; omega))) only [heapSet, heapNew, heapDrew, heapDrewN])) (by first | omega | (simp; done) | (simp; omega)))
          · exact HR3.out.below (B := w.heap.size) (by (repeat (first | with_reducible assumption | with_reducible exact Below.refl _ _ | with_reducible refine Below.drew ?_ | with_reducible refine belowDrewN ?_ _ | ((with_reducible refine Below.setCell ?_ ?_ _); rotate_left; focus (first | omega | (simp; done) | (simp; omega))) | ((with_reducible refine Below.alloc ?_ ?_ _); rotate_left; focus (first | omega | (simp; done) | (simp; omega)))))) hpw
          · exact HO3.out.thenBelow (by (repeat (first | with_reducible assumption | with_reducible exact Below.refl _ _ | with_reducible refine Below.drew ?_ | with_reducible refine belowDrewN ?_ _ | ((with_reducible refine Below.setCell ?_ ?_ _); rotate_left; focus (first | omega | (simp; done) | (simp; omega))) | ((with_reducible refine Below.alloc ?_ ?_ _); rotate_left; focus (first | omega | (simp; done) | (simp; omega))))))
        by_cases hf : T = ⟨#[35, 102]⟩
        · have hat1 : atomD T = some (.mk 3 0 ⟨#[]⟩ []) := by rw [hf]; exact atomD_fa
          have hsb : (T.toList == [35, 116]) = false := ba_tr ht
          have hsb2 : (T.toList == [35, 102]) = true := by rw [hf]; simp [ByteArray.toList_eq]
          have HAT1 := Lib.hid hat1; clear hat1; have HN := Lib.hid hn; clear hn; have HT := Lib.hid ht; clear ht; have HF := Lib.hid hf; clear hf
          go_wp2_with fail
          refine (sBooleanDatum_calls false _).mono ?_
          rintro e w3 ⟨sa, sc, sm, rfl, hi3, hm3, hb3⟩
          simp only [Dat.k_mk, Dat.n_mk, Dat.s_mk, Dat.ds_mk, bnum, Bool.false_eq_true, if_false] at hi3 hm3 ⊢
          have hz3 := hb3.size
          have hr3 := HR2.out.below hb3 (by omega)
          have ho3 := HO2.out.trans (OnlyIn.of_below hb3)
          obtain ⟨r0, r1, r2, r3, g0, g1, g2, g3⟩ := HZZ2.out.below hb3 (by omega)
          have HI3 := Lib.hid hi3; clear hi3; have HM3 := Lib.hid hm3; clear hm3; have HR3 := Lib.hid hr3; clear hr3; have HO3 := Lib.hid ho3; clear ho3; have HB3 := Lib.hid hb3; clear hb3
          go_wp2_with fail
          refine bodyPost_ret (v := .agg #[.int .i64 3, .int .i64 0, .string ⟨#[]⟩, .slice sa sm.length sc]) (by simp [results, Tryd.results63, go_sem, r0, r1, r2, r3]) rfl ?_
          refine ⟨3, 0, ⟨#[]⟩, [], sa, sc, sm, p, false, rfl, HI3.out, ?_, ?_, ?_, hap, by omega, fun _ => ⟨hps, by rw [HAT.out, HAT1.out]⟩, fun h => by cases h⟩
          · (exact M.Mine.mono (M.Mine.keep HM3.out (fun b hb1 hb2 => by (try simp at hb1); simp (disch := (first | omega | (simp; omega))) only [heapSet, heapNew, heapDrew, heapDrewN])) (by first | omega | (simp; done) | (simp; omega)))
          · exact HR3.out.below (B := w.heap.size) (by (repeat (first | with_reducible assumption | with_reducible exact Below.refl _ _ | with_reducible refine Below.drew ?_ | with_reducible refine belowDrewN ?_ _ | ((with_reducible refine Below.setCell ?_ ?_ _); rotate_left; focus (first | omega | (simp; done) | (simp; omega))) | ((with_reducible refine Below.alloc ?_ ?_ _); rotate_left; focus (first | omega | (simp; done) | (simp; omega)))))) hpw
          · exact HO3.out.thenBelow (by (repeat (first | with_reducible assumption | with_reducible exact Below.refl _ _ | with_reducible refine Below.drew ?_ | with_reducible refine belowDrewN ?_ _ | ((with_reducible refine Below.setCell ?_ ?_ _); rotate_left; focus (first | omega | (simp; done) | (simp; omega))) | ((with_reducible refine Below.alloc ?_ ?_ _); rotate_left; focus (first | omega | (simp; done) | (simp; omega))))))
        have hsb1 := ba_tr ht
        have hsb2 := ba_fa hf
        cases hy : isSymB T with
        | true =>
          have hat1 := atomD_isSym hy
          have HAT1 := Lib.hid hat1; clear hat1; have HN := Lib.hid hn; clear hn; have HT := Lib.hid ht; clear ht; have HF := Lib.hid hf; clear hf
          go_wp2_with fail
          refine (sIsSymbol_calls T _ (by omega)).mono ?_
          rintro e w3 ⟨rfl, rfl⟩
          rw [hy]
          go_wp2_with fail
          refine (sSymbolDatum_calls T _ (by omega)).mono ?_
          rintro e w3 ⟨sa, sc, sm, rfl, hi3, hm3, hb3⟩
          simp only [hy, Dat.k_mk, Dat.n_mk, Dat.s_mk, Dat.ds_mk, onlyN_t, onlyS_t] at hi3 hm3 ⊢
          have hz3 := hb3.size
          have hr3 := HR2.out.below hb3 (by omega)
          have ho3 := HO2.out.trans (OnlyIn.of_below hb3)
          obtain ⟨r0, r1, r2, r3, g0, g1, g2, g3⟩ := HZZ2.out.below hb3 (by omega)
          have HI3 := Lib.hid hi3; clear hi3; have HM3 := Lib.hid hm3; clear hm3; have HR3 := Lib.hid hr3; clear hr3; have HO3 := Lib.hid ho3; clear ho3; have HB3 := Lib.hid hb3; clear hb3; have HY := Lib.hid hy; clear hy
          go_wp2_with fail
          refine bodyPost_ret (v := .agg #[.int .i64 1, .int .i64 0, .string T, .slice sa sm.length sc]) (by simp [results, Tryd.results63, go_sem, r0, r1, r2, r3]) rfl ?_
          refine ⟨1, 0, T, [], sa, sc, sm, p, false, rfl, HI3.out, ?_, ?_, ?_, hap, by omega, fun _ => ⟨hps, by rw [HAT.out, HAT1.out]⟩, fun h => by cases h⟩
          · (exact M.Mine.mono (M.Mine.keep HM3.out (fun b hb1 hb2 => by (try simp at hb1); simp (disch := (first | omega | (simp; omega))) only [heapSet, heapNew, heapDrew, heapDrewN])) (by first | omega | (simp; done) | (simp; omega)))
          · exact HR3.out.below (B := w.heap.size) (by (repeat (first | with_reducible assumption | with_reducible exact Below.refl _ _ | with_reducible refine Below.drew ?_ | with_reducible refine belowDrewN ?_ _ | ((with_reducible refine Below.setCell ?_ ?_ _); rotate_left; focus (first | omega | (simp; done) | (simp; omega))) | ((with_reducible refine Below.alloc ?_ ?_ _); rotate_left; focus (first | omega | (simp; done) | (simp; omega)))))) hpw
          · exact HO3.out.thenBelow (by (repeat (first | with_reducible assumption | with_reducible exact Below.refl _ _ | with_reducible refine Below.drew ?_ | with_reducible refine belowDrewN ?_ _ | ((with_reducible refine Below.setCell ?_ ?_ _); rotate_left; focus (first | omega | (simp; done) | (simp; omega))) | ((with_reducible refine Below.alloc ?_ ?_ _); rotate_left; focus (first | omega | (simp; done) | (simp; omega))))))
        | false =>
          have hat1 := atomD_none hn ht hf hy
          have HAT1 := Lib.hid hat1; clear hat1; have HN := Lib.hid hn; clear hn; have HT := Lib.hid ht; clear ht; have HF := Lib.hid hf; clear hf
          go_wp2_with fail
          refine (sIsSymbol_calls T _ (by omega)).mono ?_
          rintro e w3 ⟨rfl, rfl⟩
          rw [hy]
          obtain ⟨r0, r1, r2, r3, g0, g1, g2, g3⟩ := HZZ2.out
          obtain ⟨c0, c1, c2, f1, f2⟩ := id HR2.out
          have hr3 := HR2.out.set2 (.bool true)
          have ho3 := HO2.out.put 2 (.bool true)
          have HR3 := Lib.hid hr3; clear hr3; have HO3 := Lib.hid ho3; clear ho3
          go_wp2_with fail
          refine bodyPost_ret (v := .agg #[.int .i64 0, .int .i64 0, .string ⟨#[]⟩, .slice none 0 0]) (by simp [results, Tryd.results63, go_sem, r0, r1, r2, r3]) rfl ?_
          refine ⟨0, 0, ⟨#[]⟩, [], none, 0, [], p, true, rfl, rfl, M.Mine.nil _ _ _ _ (by decide), ?_, ?_, hap, by omega, fun h => (by cases h), fun _ => by rw [HAT.out, HAT1.out]⟩
          · exact HR3.out.below (B := w.heap.size) (by (repeat (first | with_reducible assumption | with_reducible exact Below.refl _ _ | with_reducible refine Below.drew ?_ | with_reducible refine belowDrewN ?_ _ | ((with_reducible refine Below.setCell ?_ ?_ _); rotate_left; focus (first | omega | (simp; done) | (simp; omega))) | ((with_reducible refine Below.alloc ?_ ?_ _); rotate_left; focus (first | omega | (simp; done) | (simp; omega)))))) hpw
          · exact HO3.out.thenBelow (by (repeat (first | with_reducible assumption | with_reducible exact Below.refl _ _ | with_reducible refine Below.drew ?_ | with_reducible refine belowDrewN ?_ _ | ((with_reducible refine Below.setCell ?_ ?_ _); rotate_left; focus (first | omega | (simp; done) | (simp; omega))) | ((with_reducible refine Below.alloc ?_ ?_ _); rotate_left; focus (first | omega | (simp; done) | (simp; omega))))))
end Go.Proofs.YtigmgfinjapchaaDoor

/-
  append as one step of a region that draws its order. No condition.
-/
set_option linter.unusedVariables false
namespace Go.Proofs.YtigmgfinjapchaaDoor
open Go.RowKit

theorem step_row {P : Program} (w : World) {ops : Array Oper} {o : Oper} {act : Act} {K : Act → World → Prop} {Q : Exit → Act → World → Prop} {E : Prop} (hgd : o.guard = none) (s x : Operand) (t : TypeId)
    (ho : o.op = .call { callee := .builtin .append, args := #[s, x], argTypes := #[t, t] })
    (e : TypeId) (z : Value) (size bytes : Nat) (ht : P.underlying t = some (.slice e)) (hinfo : (P.info? e).map (fun i => (i.zero, i.size, i.bytes)) = some (some z, size, bytes))
    (hzs : z.cells.size = size) (hsz : 0 < size)
    (base : Nat) (a : Option Addr) (n cap : Nat) (xs : List Value) (hs : act.eval s = .slice a n cap) (hown : w.ownsRow base e size (.slice a n cap) n xs)
    (ao : Option Addr) (m c : Nat) (news : List Value) (hx : act.eval x = .slice ao m c) (hl : news.length = m * size) (hno : ao = none → m = 0 ∧ c = 0)
    (hnews : ∀ ad, ao = some ad → ∀ (j : Nat) u, news[j]? = some u → w.cell? (ad.add j) = some u) (h1 : ∀ u ∈ news, u.oneCell' = true)
    (h63 : n + m ≤ maxLen) (hbytes : (n + m) * bytes ≤ 140737488355328) (hbase : base ≤ w.heap.size)
    (h : ∀ a' cap' w', w'.ownsRow base e size (.slice a' (n + m) cap') (n + m) (xs ++ news) → w.grownBy w' (Value.ownBlock (.slice a n cap)) → (∀ b ∈ addrBlocks a', b ∈ addrBlocks a ∨ w.heap.size ≤ b) →
      K (act.put o.dst (.slice a' (n + m) cap')) w') : if Region.wanted o (yielded ops act.tmps) = true then Oper.wp P o act w K Q else E := by
  have hw : Region.wanted o (yielded ops act.tmps) = true := by simp [Region.wanted, hgd]
  rw [if_pos hw]
  obtain ⟨i, hi, hz, hsize, hby⟩ := info_parts hinfo
  obtain ⟨a', cap', w', hr, h2, h3, h4⟩ := run_append_row (P := P) w base t o.type e i z size bytes ht hi hz hsize hby hzs hsz a n cap xs hown ao m c news hl hno hnews h1 h63 hbytes hbase
  unfold Oper.wp execOp
  simp only [ho, resolve, invoke, builtin, Sem.run_bind, Sem.run_pure, Result.andThen_ok, List.map_toArray, List.map_cons, List.map_nil, hs, hx, hr]
  exact h a' cap' w' h2 h3 h4

theorem step_push {P : Program} {wr w1 : World} {ops : Array Oper} {o : Oper} {act : Act} {K : Act → World → Prop} {Q : Exit → Act → World → Prop} {E : Prop} (hgd : o.guard = none) (s x : Operand) (t : TypeId)
    (ho : o.op = .call { callee := .builtin .append, args := #[s, x], argTypes := #[t, t] })
    (e : TypeId) (z : Value) (size bytes : Nat) (ht : P.underlying t = some (.slice e)) (hinfo : (P.info? e).map (fun i => (i.zero, i.size, i.bytes)) = some (some z, size, bytes))
    (hzs : z.cells.size = size) (hsz : 0 < size)
    (lo : Nat) (a : Option Addr) (cap : Nat) (xs : List M) (hs : act.eval s = .slice a xs.length cap) (hrow : (M.sl a cap size e xs).Mine wr lo) (hlo : lo ≤ wr.heap.size) (hb : Below wr.heap.size wr w1)
    (cs : Array Value) (m : M) (hmc : m.cells = cs.toList) (hml : cs.size = size) (c : Nat) (hm : m.Mine w1 c) (hc : wr.heap.size ≤ c)
    (hx : act.eval x = .slice (some ⟨w1.heap.size, 0, none⟩) 1 1) (h63 : xs.length + 1 ≤ maxLen) (hbytes : (xs.length + 1) * bytes ≤ 140737488355328)
    (h : ∀ a' cap' w', (M.sl a' cap' size e (xs ++ [m])).Mine w' lo → Below lo w1 w' → w1.heap.size ≤ w'.heap.size → (∀ b, b < w1.heap.size → b ∉ addrBlocks a → w'.heap[b]? = w1.heap[b]?) →
      K (act.put o.dst (.slice a' (xs.length + 1) cap')) w') : if Region.wanted o (yielded ops act.tmps) = true then Oper.wp P o act (w1.alloc (.cells cs e)) K Q else E := by
  have hsz1 := hb.size
  have hrw : (M.sl a cap size e xs).Mine (w1.alloc (.cells cs e)) lo := by
    refine M.Mine.keep hrow fun b h1 h2 => ?_
    rw [heapNew _ _ _ (by omega), hb.block b h2]
  have hmw : m.Mine (w1.alloc (.cells cs e)) lo := by
    refine M.Mine.mono (M.Mine.keep hm fun b h1 h2 => ?_) (by omega)
    rw [heapNew _ _ _ h2]
  have hlen : m.cells.length = size := by rw [hmc]; simpa using hml
  refine step_row _ hgd s x t ho e z size bytes ht hinfo hzs hsz lo a xs.length cap (M.cellsL xs) hs hrw.own.1.1 _ 1 1 m.cells hx (by omega) (by simp) ?_ ?_ h63 hbytes (by simp; omega) ?_
  · intro ad had j u hu
    obtain rfl := Option.some.inj had
    rw [addr_add, Nat.zero_add, World.cell?_alloc_new]
    rw [hmc] at hu
    simpa using hu
  · exact M.Own.one m hmw.own
  · intro a' cap' w' hr hg ha
    have hY : M.MineL (w1.alloc (.cells cs e)) lo [m] := ⟨⟨hmw.own, trivial⟩, by simpa [M.blocksL] using hmw.dup⟩
    have hp := M.Mine.push (ys := [m]) hrw (by simpa [M.cellsL] using hr) hg ha hY (by simpa using hlen) (fun b hb' => by
      have h1 := hm.lt b (by simpa [M.blocksL] using hb')
      have h2 : ∀ b' ∈ (M.sl a cap size e xs).blocks, b' < wr.heap.size := fun b' hb' => (hrow.lt b' hb').2
      exact ⟨fun hn => by have := h2 b (by simp [M.blocks, hn]); omega, fun hn => by have := h2 b (by simp [M.blocks, hn]); omega⟩)
    have hkeep : ∀ b, b < w1.heap.size → b ∉ addrBlocks a → w'.heap[b]? = w1.heap[b]? := fun b hb1 hn => by
      rw [hg.block b (by simp; omega) (fun he => hn (addrBlocks_own.1 he.symm)), heapNew _ _ _ hb1]
    have hgs := hg.size
    refine h a' cap' w' hp ?_ ?_ hkeep
    · have := grownBy_below (lo := lo) hg (B := lo) (by simp; omega) fun b hb => (Mine.addr_lo hrow b hb).1
      exact ⟨this.os, this.tape, this.output, by simp at hgs; omega, fun k hk => by rw [this.block k hk, heapNew _ _ _ (by omega)]⟩
    · simp at hgs; omega
end Go.Proofs.YtigmgfinjapchaaDoor

/-
  append of one element after a call that changed other cells. No condition.
-/
set_option linter.unusedVariables false
namespace Go.Proofs.YtigmgfinjapchaaDoor
open Go.RowKit

theorem step_push3 {P : Program} {wr w1 : World} {ops : Array Oper} {o : Oper} {act : Act} {K : Act → World → Prop} {Q : Exit → Act → World → Prop} {E : Prop} (hgd : o.guard = none) (s x : Operand) (t : TypeId)
    (ho : o.op = .call { callee := .builtin .append, args := #[s, x], argTypes := #[t, t] })
    (e : TypeId) (z : Value) (size bytes : Nat) (ht : P.underlying t = some (.slice e)) (hinfo : (P.info? e).map (fun i => (i.zero, i.size, i.bytes)) = some (some z, size, bytes))
    (hzs : z.cells.size = size) (hsz : 0 < size)
    (lo : Nat) (a : Option Addr) (cap : Nat) (xs : List M) (hs : act.eval s = .slice a xs.length cap) (hrow : (M.sl a cap size e xs).Mine wr lo) (hlo : lo ≤ wr.heap.size) (hsz1 : wr.heap.size ≤ w1.heap.size) (hk : ∀ b, lo ≤ b → b < wr.heap.size → w1.heap[b]? = wr.heap[b]?)
    (cs : Array Value) (m : M) (hmc : m.cells = cs.toList) (hml : cs.size = size) (c : Nat) (hm : m.Mine w1 c) (hc : wr.heap.size ≤ c)
    (hx : act.eval x = .slice (some ⟨w1.heap.size, 0, none⟩) 1 1) (h63 : xs.length + 1 ≤ maxLen) (hbytes : (xs.length + 1) * bytes ≤ 140737488355328)
    (h : ∀ a' cap' w', (M.sl a' cap' size e (xs ++ [m])).Mine w' lo → Below lo w1 w' → w1.heap.size ≤ w'.heap.size → (∀ b, b < w1.heap.size → b ∉ addrBlocks a → w'.heap[b]? = w1.heap[b]?) →
      K (act.put o.dst (.slice a' (xs.length + 1) cap')) w') : if Region.wanted o (yielded ops act.tmps) = true then Oper.wp P o act (w1.alloc (.cells cs e)) K Q else E := by
  have hrw : (M.sl a cap size e xs).Mine (w1.alloc (.cells cs e)) lo := by
    refine M.Mine.keep hrow fun b h1 h2 => ?_
    rw [heapNew _ _ _ (by omega), hk b h1 h2]
  have hmw : m.Mine (w1.alloc (.cells cs e)) lo := by
    refine M.Mine.mono (M.Mine.keep hm fun b h1 h2 => ?_) (by omega)
    rw [heapNew _ _ _ h2]
  have hlen : m.cells.length = size := by rw [hmc]; simpa using hml
  refine step_row _ hgd s x t ho e z size bytes ht hinfo hzs hsz lo a xs.length cap (M.cellsL xs) hs hrw.own.1.1 _ 1 1 m.cells hx (by omega) (by simp) ?_ ?_ h63 hbytes (by simp; omega) ?_
  · intro ad had j u hu
    obtain rfl := Option.some.inj had
    rw [addr_add, Nat.zero_add, World.cell?_alloc_new]
    rw [hmc] at hu
    simpa using hu
  · exact M.Own.one m hmw.own
  · intro a' cap' w' hr hg ha
    have hY : M.MineL (w1.alloc (.cells cs e)) lo [m] := ⟨⟨hmw.own, trivial⟩, by simpa [M.blocksL] using hmw.dup⟩
    have hp := M.Mine.push (ys := [m]) hrw (by simpa [M.cellsL] using hr) hg ha hY (by simpa using hlen) (fun b hb' => by
      have h1 := hm.lt b (by simpa [M.blocksL] using hb')
      have h2 : ∀ b' ∈ (M.sl a cap size e xs).blocks, b' < wr.heap.size := fun b' hb' => (hrow.lt b' hb').2
      exact ⟨fun hn => by have := h2 b (by simp [M.blocks, hn]); omega, fun hn => by have := h2 b (by simp [M.blocks, hn]); omega⟩)
    have hkeep : ∀ b, b < w1.heap.size → b ∉ addrBlocks a → w'.heap[b]? = w1.heap[b]? := fun b hb1 hn => by
      rw [hg.block b (by simp; omega) (fun he => hn (addrBlocks_own.1 he.symm)), heapNew _ _ _ hb1]
    have hgs := hg.size
    refine h a' cap' w' hp ?_ ?_ hkeep
    · have := grownBy_below (lo := lo) hg (B := lo) (by simp; omega) fun b hb => (Mine.addr_lo hrow b hb).1
      exact ⟨this.os, this.tape, this.output, by simp at hgs; omega, fun k hk => by rw [this.block k hk, heapNew _ _ _ (by omega)]⟩
    · simp at hgs; omega
end Go.Proofs.YtigmgfinjapchaaDoor
