/-
  Walks: the number that a text is, the reference's side. No condition. (printed by wip/tools/mkpn2.py)
-/
import Derived.Test.YtoflfamfhpijcaaDoorPN1
import Derived.Test.YtoflfamfhpijcaaDoorF2
import Derived.Test.YtoflfamfhpijcaaDoorF4
import Derived.Test.YtoflfamfhpijcaaDoorW2
set_option linter.unusedVariables false
set_option linter.unusedSimpArgs false
set_option maxRecDepth 100000
namespace Go.Proofs.YtoflfamfhpijcaaDoor
open Go.RowKit

theorem decFrom_none_app : ∀ (l r : List UInt8) (acc : Nat), Lib.decFrom acc l = none → Lib.decFrom acc (l ++ r) = none
  | [], r, acc, h => by simp [Lib.decFrom] at h
  | b :: l, r, acc, h => by
    simp only [List.cons_append, Lib.decFrom] at h ⊢
    cases hd : Lib.digitVal b with
    | none => rfl
    | some d => simp only [hd] at h ⊢; exact decFrom_none_app l r _ h
theorem decFrom_none_of {l : List UInt8} {k acc : Nat} (h : Lib.decFrom acc (l.take k) = none) : Lib.decFrom acc l = none := by
  rw [← List.take_append_drop k l]; exact decFrom_none_app _ _ _ h
/-- what ParseNumber hands back -/
def numV : Option Int → Value
  | some n => .tuple #[.int .i64 n, .bool true]
  | none => .tuple #[.int .i64 0, .bool false]
set_option maxHeartbeats 2000000 in
theorem sParseNumber_calls (s : ByteArray) (w : World) (hs : s.size ≤ 9223372036854775807) :
    Calls Tryd.prog 37 #[.string s] w (Ret (numV (numOf s.data.toList)) w) := by
  by_cases h0 : s.size = 0
  · have hno := num_none_size (s := s.data.toList) (.inl h0)
    have hz2 : ((0 : Int) == (s.size : Int)) = true := by simp [h0]
    have hp : ¬ (0 < s.size) := by omega
    have hp2 : ¬ ((0 : Int) < (s.size : Int)) := by omega
    have HNO := Lib.hid hno; clear hno
    go_enter Tryd.func37, Tryd.ntmps37
    go_wp2_with fail
    go_ret2
    exact ⟨by rw [HNO.out]; rfl, by (repeat (first | with_reducible assumption | with_reducible exact Below.refl _ _ | with_reducible refine Below.drew ?_ | with_reducible refine belowDrewN ?_ _ | ((with_reducible refine Below.setCell ?_ ?_ _); rotate_left; focus (first | omega | (simp; done) | (simp; omega))) | ((with_reducible refine Below.alloc ?_ ?_ _); rotate_left; focus (first | omega | (simp; done) | (simp; omega)))))⟩
  have hp : 0 < s.size := by omega
  have hh : s.data.toList.head? = some (s[0]'hp) := by
    rw [List.head?_eq_getElem?]
    have h' : 0 < s.data.toList.length := by simpa using hp
    rw [List.getElem?_eq_getElem h']; rfl
  by_cases h45 : (s[0]'hp).toNat = 45
  · have hat : atOf s.data.toList = 1 := by
      unfold atOf; rw [hh, if_pos]; congr 1; exact UInt8.toNat_inj.1 h45
    have h45i : (((s[0]'hp).toNat : Int) == 45) = true := by simp [h45]
    clear hh
    go_enter Tryd.func37, Tryd.ntmps37
    have hdl : (s.data.toList.drop 1).length = s.size - 1 := by rw [List.length_drop]; rfl
    by_cases hlen0 : s.size = 1
    · have hno := num_none_len (s := s.data.toList) (by rw [hat]; left; omega)
      have hz : ((s.size : Int) == 1) = true := by simp [hlen0]
      have hz2 : ((1 : Int) == (s.size : Int)) = true := by simp [hlen0]
      have HNO := Lib.hid hno; clear hno; have HAT := Lib.hid hat; clear hat; have HDL := Lib.hid hdl; clear hdl
      go_wp2_with fail
      go_ret2
      exact ⟨by rw [HNO.out]; rfl, by (repeat (first | with_reducible assumption | with_reducible exact Below.refl _ _ | with_reducible refine Below.drew ?_ | with_reducible refine belowDrewN ?_ _ | ((with_reducible refine Below.setCell ?_ ?_ _); rotate_left; focus (first | omega | (simp; done) | (simp; omega))) | ((with_reducible refine Below.alloc ?_ ?_ _); rotate_left; focus (first | omega | (simp; done) | (simp; omega)))))⟩
    by_cases hlen9 : 9 < s.size - 1
    · have hno := num_none_len (s := s.data.toList) (by rw [hat]; right; omega)
      have hz2 : ((1 : Int) == (s.size : Int)) = false := beq_eq_false_iff_ne.2 (by omega)
      have hz9 : 9 < (s.size : Int) - 1 := by omega
      have HNO := Lib.hid hno; clear hno; have HAT := Lib.hid hat; clear hat; have HDL := Lib.hid hdl; clear hdl
      go_wp2_with fail
      go_ret2
      exact ⟨by rw [HNO.out]; rfl, by (repeat (first | with_reducible assumption | with_reducible exact Below.refl _ _ | with_reducible refine Below.drew ?_ | with_reducible refine belowDrewN ?_ _ | ((with_reducible refine Below.setCell ?_ ?_ _); rotate_left; focus (first | omega | (simp; done) | (simp; omega))) | ((with_reducible refine Below.alloc ?_ ?_ _); rotate_left; focus (first | omega | (simp; done) | (simp; omega)))))⟩
    have hz2 : ((1 : Int) == (s.size : Int)) = false := beq_eq_false_iff_ne.2 (by omega)
    have hz9 : ¬ 9 < (s.size : Int) - 1 := by omega
    have HAT := Lib.hid hat; clear hat; have HDL := Lib.hid hdl; clear hdl
    go_wp2_with fail
    go_loopw [5, 6] (fun u i wr => ∃ (k m : Nat), 1 ≤ k ∧ k ≤ s.size ∧ i = .int .i64 k ∧ u = .int .i64 m ∧ Lib.decFrom 0 ((s.data.toList.drop 1).take (k - 1)) = some m ∧ wr = w) (fun _ i _ => s.size - (intOf i).toNat)
    case atStart => exact ⟨1, 0, Nat.le_refl _, by omega, rfl, rfl, by simp [Lib.decFrom], rfl⟩
    case round =>
      obtain ⟨k, m, hk0, hk, rfl, rfl, hdf, rfl⟩ := hrel
      by_cases hlt : k < s.size
      · have hget : (s.data.toList.drop 1)[k - 1]? = some (s[k]'hlt) := by
          rw [List.getElem?_drop, show 1 + (k - 1) = k by omega]
          have h' : k < s.data.toList.length := by simpa using hlt
          rw [List.getElem?_eq_getElem h']; rfl
        have hsn := decFrom_snoc ((s.data.toList.drop 1).take (k - 1)) 0 (s[k]'hlt)
        rw [← take_snoc hget, hdf, show k - 1 + 1 = k + 1 - 1 by omega] at hsn
        have hmb := decFrom_lt _ _ _ hdf
        have htl : ((s.data.toList.drop 1).take (k - 1)).length ≤ 9 := by rw [List.length_take, HDL.out]; omega
        have hm9 : m < 1000000000 := by
          have hp := Nat.pow_le_pow_right (show 0 < 10 by decide) htl
          have e : (10 : Nat) ^ 9 = 1000000000 := by decide
          rw [e] at hp; omega
        by_cases hdg : 48 ≤ (s[k]'hlt).toNat ∧ (s[k]'hlt).toNat ≤ 57
        · have hyes : digB ((s[k]'hlt).toNat : Int) = true := by unfold digB; simp; omega
          have hdv := digitVal_yes hdg.1 hdg.2
          rw [hdv] at hsn
          simp only [Option.bind_some, Option.map_some] at hsn
          generalize hbt : ((s[k]'hlt).toNat) = bt at *
          have hw1 : ((bt : Int) - 48) % 256 = ((bt - 48 : Nat) : Int) := by omega
          have HSN := Lib.hid hsn; clear hsn; have HDF := Lib.hid hdf; clear hdf; have HGET := Lib.hid hget; clear hget; have HDV := Lib.hid hdv; clear hdv; have HMB := Lib.hid hmb; clear hmb; have HTL := Lib.hid htl; clear htl
          go_wp2_with (go_at_call 74; refine (l1Digit_calls _ _).mono ?_; rintro e w1 ⟨rfl, rfl⟩)
          go_roundw
          case rel => exact ⟨k + 1, m * 10 + (bt - 48), by omega, by omega, by go_num, by first | (congr 1; omega) | (congr 1; unfold wrap64; omega), HSN.out, by first | rfl | trivial⟩
          case measure => simp [intOf]; omega
        · have hno2 : digB ((s[k]'hlt).toNat : Int) = false := by
            unfold digB
            by_cases h1 : 48 ≤ (s[k]'hlt).toNat
            · have : ¬ (s[k]'hlt).toNat ≤ 57 := fun h => hdg ⟨h1, h⟩
              simp; omega
            · simp; omega
          have hdv := digitVal_no hdg
          rw [hdv] at hsn
          simp only [Option.bind_some, Option.map_none] at hsn
          have hall : Lib.decFrom 0 (s.data.toList.drop 1) = none := decFrom_none_of hsn
          have hno := num_none_digit (s := s.data.toList) (by rw [HAT.out]; exact hall)
          have HSN := Lib.hid hsn; clear hsn; have HDF := Lib.hid hdf; clear hdf; have HGET := Lib.hid hget; clear hget; have HDV := Lib.hid hdv; clear hdv; have HMB := Lib.hid hmb; clear hmb; have HTL := Lib.hid htl; clear htl; have HALL := Lib.hid hall; clear hall; have HNO := Lib.hid hno; clear hno; have HDG := Lib.hid hdg; clear hdg
          go_wp2_with (go_at_call 74; refine (l1Digit_calls _ _).mono ?_; rintro e w1 ⟨rfl, rfl⟩)
          go_ret2
          exact ⟨by rw [HNO.out]; rfl, by (repeat (first | with_reducible assumption | with_reducible exact Below.refl _ _ | with_reducible refine Below.drew ?_ | with_reducible refine belowDrewN ?_ _ | ((with_reducible refine Below.setCell ?_ ?_ _); rotate_left; focus (first | omega | (simp; done) | (simp; omega))) | ((with_reducible refine Below.alloc ?_ ?_ _); rotate_left; focus (first | omega | (simp; done) | (simp; omega)))))⟩
      · have hk2 : k = s.size := by omega
        subst hk2
        have htk : (s.data.toList.drop 1).take (s.size - 1) = s.data.toList.drop 1 := List.take_of_length_le (by rw [HDL.out]; omega)
        rw [htk] at hdf
        have hmb := decFrom_lt _ _ _ hdf
        have hm9 : m < 1000000000 := by
          have hp := Nat.pow_le_pow_right (show 0 < 10 by decide) (show (s.data.toList.drop 1).length ≤ 9 by rw [HDL.out]; omega)
          have e : (10 : Nat) ^ 9 = 1000000000 := by decide
          rw [e] at hp; omega
        have hend := num_end (s := s.data.toList) (m := m) (by rw [HAT.out]; exact hdf) (by rw [HAT.out, HDL.out]; omega) (-(m : Int)) (by rw [HAT.out]; rfl)
        have hI : I64 (-(m : Int)) := by unfold I64; omega
        have hneg : wrap64 (-(m : Int)) = -(m : Int) := by unfold wrap64; omega
        have HDF := Lib.hid hdf; clear hdf; have HTK := Lib.hid htk; clear htk; have HMB := Lib.hid hmb; clear hmb
        by_cases he : Lib.itoa (-(m : Int)) = s.data.toList
        · rw [if_pos he] at hend
          have hba := baOf he.symm
          have HEND := Lib.hid hend; clear hend; have HE := Lib.hid he; clear he; have HBA := Lib.hid hba; clear hba
          go_wp2_with fail
          refine (sFormatNumber_calls _ _ hI).mono ?_
          rintro e w1 ⟨rfl, hb1⟩
          rw [← HBA.out]
          go_wp2_with fail
          go_ret2
          exact ⟨by rw [HEND.out]; rfl, by (repeat (first | with_reducible assumption | with_reducible exact Below.refl _ _ | with_reducible refine Below.drew ?_ | with_reducible refine belowDrewN ?_ _ | ((with_reducible refine Below.setCell ?_ ?_ _); rotate_left; focus (first | omega | (simp; done) | (simp; omega))) | ((with_reducible refine Below.alloc ?_ ?_ _); rotate_left; focus (first | omega | (simp; done) | (simp; omega))) | ((with_reducible refine Below.trans ?_ (Below.mono hb1 ?_)); rotate_left; focus (first | omega | (simp; done) | (simp; omega)))))⟩
        · rw [if_neg he] at hend
          obtain ⟨B, hBB⟩ : ∃ B : ByteArray, B = ⟨(Lib.itoa (-(m : Int))).toArray⟩ := ⟨_, rfl⟩
          have hbn : ¬ B = s := fun h => he (by rw [← h, hBB])
          have hbb := ba_ne hbn
          have HEND := Lib.hid hend; clear hend; have HE := Lib.hid he; clear he; have HBN := Lib.hid hbn; clear hbn; have HBB_ := Lib.hid hBB; clear hBB
          go_wp2_with fail
          refine (sFormatNumber_calls _ _ hI).mono ?_
          rintro e w1 ⟨rfl, hb1⟩
          rw [← HBB_.out]
          go_wp2_with fail
          go_ret2
          exact ⟨by rw [HEND.out]; rfl, by (repeat (first | with_reducible assumption | with_reducible exact Below.refl _ _ | with_reducible refine Below.drew ?_ | with_reducible refine belowDrewN ?_ _ | ((with_reducible refine Below.setCell ?_ ?_ _); rotate_left; focus (first | omega | (simp; done) | (simp; omega))) | ((with_reducible refine Below.alloc ?_ ?_ _); rotate_left; focus (first | omega | (simp; done) | (simp; omega))) | ((with_reducible refine Below.trans ?_ (Below.mono hb1 ?_)); rotate_left; focus (first | omega | (simp; done) | (simp; omega)))))⟩
  · have hat : atOf s.data.toList = 0 := by
      unfold atOf; rw [hh, if_neg]; intro h; apply h45; rw [Option.some.inj h]; rfl
    have h45i : (((s[0]'hp).toNat : Int) == 45) = false := beq_eq_false_iff_ne.2 (by omega)
    clear hh
    go_enter Tryd.func37, Tryd.ntmps37
    have hdl : (s.data.toList.drop 0).length = s.size - 0 := by rw [List.length_drop]; rfl
    by_cases hlen0 : s.size = 0
    · have hno := num_none_len (s := s.data.toList) (by rw [hat]; left; omega)
      have hz : ((s.size : Int) == 0) = true := by simp [hlen0]
      have hz2 : ((0 : Int) == (s.size : Int)) = true := by simp [hlen0]
      have HNO := Lib.hid hno; clear hno; have HAT := Lib.hid hat; clear hat; have HDL := Lib.hid hdl; clear hdl
      go_wp2_with fail
      go_ret2
      exact ⟨by rw [HNO.out]; rfl, by (repeat (first | with_reducible assumption | with_reducible exact Below.refl _ _ | with_reducible refine Below.drew ?_ | with_reducible refine belowDrewN ?_ _ | ((with_reducible refine Below.setCell ?_ ?_ _); rotate_left; focus (first | omega | (simp; done) | (simp; omega))) | ((with_reducible refine Below.alloc ?_ ?_ _); rotate_left; focus (first | omega | (simp; done) | (simp; omega)))))⟩
    by_cases hlen9 : 9 < s.size - 0
    · have hno := num_none_len (s := s.data.toList) (by rw [hat]; right; omega)
      have hz2 : ((0 : Int) == (s.size : Int)) = false := beq_eq_false_iff_ne.2 (by omega)
      have hz9 : 9 < (s.size : Int) - 0 := by omega
      have HNO := Lib.hid hno; clear hno; have HAT := Lib.hid hat; clear hat; have HDL := Lib.hid hdl; clear hdl
      go_wp2_with fail
      go_ret2
      exact ⟨by rw [HNO.out]; rfl, by (repeat (first | with_reducible assumption | with_reducible exact Below.refl _ _ | with_reducible refine Below.drew ?_ | with_reducible refine belowDrewN ?_ _ | ((with_reducible refine Below.setCell ?_ ?_ _); rotate_left; focus (first | omega | (simp; done) | (simp; omega))) | ((with_reducible refine Below.alloc ?_ ?_ _); rotate_left; focus (first | omega | (simp; done) | (simp; omega)))))⟩
    have hz2 : ((0 : Int) == (s.size : Int)) = false := beq_eq_false_iff_ne.2 (by omega)
    have hz9 : ¬ 9 < (s.size : Int) - 0 := by omega
    have HAT := Lib.hid hat; clear hat; have HDL := Lib.hid hdl; clear hdl
    go_wp2_with fail
    go_loopw [5, 6] (fun u i wr => ∃ (k m : Nat), 0 ≤ k ∧ k ≤ s.size ∧ i = .int .i64 k ∧ u = .int .i64 m ∧ Lib.decFrom 0 ((s.data.toList.drop 0).take (k - 0)) = some m ∧ wr = w) (fun _ i _ => s.size - (intOf i).toNat)
    case atStart => exact ⟨0, 0, Nat.le_refl _, by omega, rfl, rfl, by simp [Lib.decFrom], rfl⟩
    case round =>
      obtain ⟨k, m, hk0, hk, rfl, rfl, hdf, rfl⟩ := hrel
      by_cases hlt : k < s.size
      · have hget : (s.data.toList.drop 0)[k - 0]? = some (s[k]'hlt) := by
          rw [List.getElem?_drop, show 0 + (k - 0) = k by omega]
          have h' : k < s.data.toList.length := by simpa using hlt
          rw [List.getElem?_eq_getElem h']; rfl
        have hsn := decFrom_snoc ((s.data.toList.drop 0).take (k - 0)) 0 (s[k]'hlt)
        rw [← take_snoc hget, hdf, show k - 0 + 1 = k + 1 - 0 by omega] at hsn
        have hmb := decFrom_lt _ _ _ hdf
        have htl : ((s.data.toList.drop 0).take (k - 0)).length ≤ 9 := by rw [List.length_take, HDL.out]; omega
        have hm9 : m < 1000000000 := by
          have hp := Nat.pow_le_pow_right (show 0 < 10 by decide) htl
          have e : (10 : Nat) ^ 9 = 1000000000 := by decide
          rw [e] at hp; omega
        by_cases hdg : 48 ≤ (s[k]'hlt).toNat ∧ (s[k]'hlt).toNat ≤ 57
        · have hyes : digB ((s[k]'hlt).toNat : Int) = true := by unfold digB; simp; omega
          have hdv := digitVal_yes hdg.1 hdg.2
          rw [hdv] at hsn
          simp only [Option.bind_some, Option.map_some] at hsn
          generalize hbt : ((s[k]'hlt).toNat) = bt at *
          have hw1 : ((bt : Int) - 48) % 256 = ((bt - 48 : Nat) : Int) := by omega
          have HSN := Lib.hid hsn; clear hsn; have HDF := Lib.hid hdf; clear hdf; have HGET := Lib.hid hget; clear hget; have HDV := Lib.hid hdv; clear hdv; have HMB := Lib.hid hmb; clear hmb; have HTL := Lib.hid htl; clear htl
          go_wp2_with (go_at_call 74; refine (l1Digit_calls _ _).mono ?_; rintro e w1 ⟨rfl, rfl⟩)
          go_roundw
          case rel => exact ⟨k + 1, m * 10 + (bt - 48), by omega, by omega, by go_num, by first | (congr 1; omega) | (congr 1; unfold wrap64; omega), HSN.out, by first | rfl | trivial⟩
          case measure => simp [intOf]; omega
        · have hno2 : digB ((s[k]'hlt).toNat : Int) = false := by
            unfold digB
            by_cases h1 : 48 ≤ (s[k]'hlt).toNat
            · have : ¬ (s[k]'hlt).toNat ≤ 57 := fun h => hdg ⟨h1, h⟩
              simp; omega
            · simp; omega
          have hdv := digitVal_no hdg
          rw [hdv] at hsn
          simp only [Option.bind_some, Option.map_none] at hsn
          have hall : Lib.decFrom 0 (s.data.toList.drop 0) = none := decFrom_none_of hsn
          have hno := num_none_digit (s := s.data.toList) (by rw [HAT.out]; exact hall)
          have HSN := Lib.hid hsn; clear hsn; have HDF := Lib.hid hdf; clear hdf; have HGET := Lib.hid hget; clear hget; have HDV := Lib.hid hdv; clear hdv; have HMB := Lib.hid hmb; clear hmb; have HTL := Lib.hid htl; clear htl; have HALL := Lib.hid hall; clear hall; have HNO := Lib.hid hno; clear hno; have HDG := Lib.hid hdg; clear hdg
          go_wp2_with (go_at_call 74; refine (l1Digit_calls _ _).mono ?_; rintro e w1 ⟨rfl, rfl⟩)
          go_ret2
          exact ⟨by rw [HNO.out]; rfl, by (repeat (first | with_reducible assumption | with_reducible exact Below.refl _ _ | with_reducible refine Below.drew ?_ | with_reducible refine belowDrewN ?_ _ | ((with_reducible refine Below.setCell ?_ ?_ _); rotate_left; focus (first | omega | (simp; done) | (simp; omega))) | ((with_reducible refine Below.alloc ?_ ?_ _); rotate_left; focus (first | omega | (simp; done) | (simp; omega)))))⟩
      · have hk2 : k = s.size := by omega
        subst hk2
        have htk : (s.data.toList.drop 0).take (s.size - 0) = s.data.toList.drop 0 := List.take_of_length_le (by rw [HDL.out]; omega)
        rw [htk] at hdf
        have hmb := decFrom_lt _ _ _ hdf
        have hm9 : m < 1000000000 := by
          have hp := Nat.pow_le_pow_right (show 0 < 10 by decide) (show (s.data.toList.drop 0).length ≤ 9 by rw [HDL.out]; omega)
          have e : (10 : Nat) ^ 9 = 1000000000 := by decide
          rw [e] at hp; omega
        have hend := num_end (s := s.data.toList) (m := m) (by rw [HAT.out]; exact hdf) (by rw [HAT.out, HDL.out]; omega) ((m : Int)) (by rw [HAT.out]; rfl)
        have hI : I64 ((m : Int)) := by unfold I64; omega
        skip
        have HDF := Lib.hid hdf; clear hdf; have HTK := Lib.hid htk; clear htk; have HMB := Lib.hid hmb; clear hmb
        by_cases he : Lib.itoa ((m : Int)) = s.data.toList
        · rw [if_pos he] at hend
          have hba := baOf he.symm
          have HEND := Lib.hid hend; clear hend; have HE := Lib.hid he; clear he; have HBA := Lib.hid hba; clear hba
          go_wp2_with fail
          refine (sFormatNumber_calls _ _ hI).mono ?_
          rintro e w1 ⟨rfl, hb1⟩
          rw [← HBA.out]
          go_wp2_with fail
          go_ret2
          exact ⟨by rw [HEND.out]; rfl, by (repeat (first | with_reducible assumption | with_reducible exact Below.refl _ _ | with_reducible refine Below.drew ?_ | with_reducible refine belowDrewN ?_ _ | ((with_reducible refine Below.setCell ?_ ?_ _); rotate_left; focus (first | omega | (simp; done) | (simp; omega))) | ((with_reducible refine Below.alloc ?_ ?_ _); rotate_left; focus (first | omega | (simp; done) | (simp; omega))) | ((with_reducible refine Below.trans ?_ (Below.mono hb1 ?_)); rotate_left; focus (first | omega | (simp; done) | (simp; omega)))))⟩
        · rw [if_neg he] at hend
          obtain ⟨B, hBB⟩ : ∃ B : ByteArray, B = ⟨(Lib.itoa ((m : Int))).toArray⟩ := ⟨_, rfl⟩
          have hbn : ¬ B = s := fun h => he (by rw [← h, hBB])
          have hbb := ba_ne hbn
          have HEND := Lib.hid hend; clear hend; have HE := Lib.hid he; clear he; have HBN := Lib.hid hbn; clear hbn; have HBB_ := Lib.hid hBB; clear hBB
          go_wp2_with fail
          refine (sFormatNumber_calls _ _ hI).mono ?_
          rintro e w1 ⟨rfl, hb1⟩
          rw [← HBB_.out]
          go_wp2_with fail
          go_ret2
          exact ⟨by rw [HEND.out]; rfl, by (repeat (first | with_reducible assumption | with_reducible exact Below.refl _ _ | with_reducible refine Below.drew ?_ | with_reducible refine belowDrewN ?_ _ | ((with_reducible refine Below.setCell ?_ ?_ _); rotate_left; focus (first | omega | (simp; done) | (simp; omega))) | ((with_reducible refine Below.alloc ?_ ?_ _); rotate_left; focus (first | omega | (simp; done) | (simp; omega))) | ((with_reducible refine Below.trans ?_ (Below.mono hb1 ?_)); rotate_left; focus (first | omega | (simp; done) | (simp; omega)))))⟩
end Go.Proofs.YtoflfamfhpijcaaDoor
