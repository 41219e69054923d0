/-
  Walks: texts of strings. No condition.
-/
import Derived.Test.YtoflfamfhpijcaaW2
set_option linter.unusedVariables false
set_option linter.unusedSimpArgs false
set_option maxRecDepth 100000
namespace Go.Proofs.Ytoflfamfhpijcaa
open Go.RowKit

def ChOk (n : Int) : Prop := 32 ≤ n ∧ n ≤ 126 ∧ ¬ n = 34
def StrOk (s : ByteArray) : Prop := s.size ≤ 20 ∧ ∀ j, j < s.size → ChOk (byteAt s j)
open Classical in
noncomputable def strB (s : ByteArray) : Bool := decide (StrOk s)
theorem strB_yes {s : ByteArray} (h : StrOk s) : strB s = true := by simp [strB, h]
theorem strB_no {s : ByteArray} (h : ¬ StrOk s) : strB s = false := by simp [strB, h]
theorem strB_bad {s : ByteArray} {k : Nat} (hk : k < s.size) (h : ¬ ChOk (byteAt s k)) : strB s = false := strB_no fun hs => h (hs.2 k hk)

theorem l1String_calls (s : ByteArray) (w : World) (hs : s.size ≤ 9223372036854775807) : Calls Try.prog 152 #[.string s] w (RetEq (.bool (strB s)) w) := by
  go_enter Try.func152, Try.ntmps152
  go_wp2_with fail
  go_loop [3] (fun i => ∃ k : Nat, k ≤ s.size ∧ i = .int .i64 k ∧ ∀ j, j < k → ChOk (byteAt s j)) (fun i => s.size - (intOf i).toNat)
  case atStart => exact ⟨0, by omega, rfl, fun j h => by omega⟩
  case round =>
    obtain ⟨k, hk, rfl, hno⟩ := hrel
    by_cases hlt : k < s.size
    · have hb := byteAt_eq s k hlt
      have HNO := Lib.hid hno; clear hno
      by_cases h1 : byteAt s k < 32
      · have hf := strB_bad hlt (by unfold ChOk; omega)
        have h1' : ((s[k]'hlt).toNat : Int) < 32 := by omega
        have HF := Lib.hid hf; clear hf; have HB := Lib.hid hb; clear hb
        go_wp2_with fail
        all_goals (first | (go_ret; exact ⟨ret_b HF.out.symm, rfl⟩) | (exfalso; omega))
      · by_cases h2 : 126 < byteAt s k
        · have hf := strB_bad hlt (by unfold ChOk; omega)
          have h1' : ¬ ((s[k]'hlt).toNat : Int) < 32 := by omega
          have h2' : 126 < ((s[k]'hlt).toNat : Int) := by omega
          have HF := Lib.hid hf; clear hf; have HB := Lib.hid hb; clear hb
          go_wp2_with fail
          all_goals (first | (go_ret; exact ⟨ret_b HF.out.symm, rfl⟩) | (exfalso; omega))
        · by_cases h3 : byteAt s k = 34
          · have hf := strB_bad hlt (by unfold ChOk; omega)
            have h1' : ¬ ((s[k]'hlt).toNat : Int) < 32 := by omega
            have h2' : ¬ 126 < ((s[k]'hlt).toNat : Int) := by omega
            have h3' : ((s[k]'hlt).toNat : Int) = 34 := by omega
            have HF := Lib.hid hf; clear hf; have HB := Lib.hid hb; clear hb
            go_wp2_with fail
            all_goals (first | (go_ret; exact ⟨ret_b HF.out.symm, rfl⟩) | (exfalso; omega))
          · have hnx : ∀ j, j < k + 1 → ChOk (byteAt s j) := by
              intro j hj
              by_cases e : j = k
              · subst e; unfold ChOk; omega
              · exact HNO.out j (by omega)
            have h1' : ¬ ((s[k]'hlt).toNat : Int) < 32 := by omega
            have h2' : ¬ 126 < ((s[k]'hlt).toNat : Int) := by omega
            have h3' : ¬ ((s[k]'hlt).toNat : Int) = 34 := by omega
            have HNX := Lib.hid hnx; clear hnx; have HB := Lib.hid hb; clear hb
            go_wp2_with fail
            go_round
            case rel => exact ⟨k + 1, by omega, by go_num, HNX.out⟩
            case measure => simp [intOf]; omega
    · have hk11 : k = s.size := by omega
      subst hk11
      by_cases h20 : s.size ≤ 20
      · have hy := strB_yes (s := s) ⟨h20, hno⟩
        have HNO := Lib.hid hno; clear hno; have HY := Lib.hid hy; clear hy
        go_wp2_with fail
        go_ret
        exact ⟨ret_b (by rw [HY.out]; simp; omega), rfl⟩
      · have hy := strB_no (s := s) (fun h => h20 h.1)
        have HNO := Lib.hid hno; clear hno; have HY := Lib.hid hy; clear hy
        go_wp2_with fail
        go_ret
        exact ⟨ret_b (by rw [HY.out]; simp; omega), rfl⟩
theorem stringText_calls (s : ByteArray) (w : World) (hs : s.size ≤ 9223372036854775807) : Calls Try.prog 151 #[.string s] w (RetEq (.bool (strB s)) w) := by
  by_cases h20 : s.size ≤ 20
  · go_enter Try.func151, Try.ntmps151
    go_wp2_with fail
    go_loop [3] (fun i => ∃ k : Nat, k ≤ s.size ∧ i = .int .i64 k ∧ ∀ j, j < k → ChOk (byteAt s j)) (fun i => s.size - (intOf i).toNat)
    case atStart => exact ⟨0, by omega, rfl, fun j h => by omega⟩
    case round =>
      obtain ⟨k, hk, rfl, hno⟩ := hrel
      by_cases hlt : k < s.size
      · have hb := byteAt_eq s k hlt
        have HNO := Lib.hid hno; clear hno
        by_cases h1 : byteAt s k < 32
        · have hf := strB_bad hlt (by unfold ChOk; omega)
          have h1' : ((s[k]'hlt).toNat : Int) < 32 := by omega
          have HF := Lib.hid hf; clear hf; have HB := Lib.hid hb; clear hb
          go_wp2_with fail
          all_goals (first | (go_ret; exact ⟨ret_b HF.out.symm, rfl⟩) | (exfalso; omega))
        · by_cases h2 : 126 < byteAt s k
          · have hf := strB_bad hlt (by unfold ChOk; omega)
            have h1' : ¬ ((s[k]'hlt).toNat : Int) < 32 := by omega
            have h2' : 126 < ((s[k]'hlt).toNat : Int) := by omega
            have HF := Lib.hid hf; clear hf; have HB := Lib.hid hb; clear hb
            go_wp2_with fail
            all_goals (first | (go_ret; exact ⟨ret_b HF.out.symm, rfl⟩) | (exfalso; omega))
          · by_cases h3 : byteAt s k = 34
            · have hf := strB_bad hlt (by unfold ChOk; omega)
              have h1' : ¬ ((s[k]'hlt).toNat : Int) < 32 := by omega
              have h2' : ¬ 126 < ((s[k]'hlt).toNat : Int) := by omega
              have h3' : ((s[k]'hlt).toNat : Int) = 34 := by omega
              have HF := Lib.hid hf; clear hf; have HB := Lib.hid hb; clear hb
              go_wp2_with fail
              all_goals (first | (go_ret; exact ⟨ret_b HF.out.symm, rfl⟩) | (exfalso; omega))
            · have hnx : ∀ j, j < k + 1 → ChOk (byteAt s j) := by
                intro j hj
                by_cases e : j = k
                · subst e; unfold ChOk; omega
                · exact HNO.out j (by omega)
              have h1' : ¬ ((s[k]'hlt).toNat : Int) < 32 := by omega
              have h2' : ¬ 126 < ((s[k]'hlt).toNat : Int) := by omega
              have h3' : ¬ ((s[k]'hlt).toNat : Int) = 34 := by omega
              have HNX := Lib.hid hnx; clear hnx; have HB := Lib.hid hb; clear hb
              go_wp2_with fail
              go_round
              case rel => exact ⟨k + 1, by omega, by go_num, HNX.out⟩
              case measure => simp [intOf]; omega
      · have hk11 : k = s.size := by omega
        subst hk11
        have hy := strB_yes (s := s) ⟨h20, hno⟩
        have HNO := Lib.hid hno; clear hno; have HY := Lib.hid hy; clear hy
        go_wp2_with fail
        go_ret
        exact ⟨ret_b (by rw [HY.out]), rfl⟩
  · have hy := strB_no (s := s) (fun h => h20 h.1)
    have HY := Lib.hid hy; clear hy
    go_enter Try.func151, Try.ntmps151
    go_wp2_with fail
    go_ret
    exact ⟨ret_b (by rw [HY.out]), rfl⟩
end Go.Proofs.Ytoflfamfhpijcaa
