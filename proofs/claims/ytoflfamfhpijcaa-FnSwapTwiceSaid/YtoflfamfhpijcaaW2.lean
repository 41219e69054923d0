/-
  Walks: symbols. No condition.
-/
import Derived.Test.YtoflfamfhpijcaaW1
set_option linter.unusedVariables false
set_option linter.unusedSimpArgs false
namespace Go.Proofs.Ytoflfamfhpijcaa
open Go.RowKit

def byteAt (s : ByteArray) (k : Nat) : Int := ((s.data.toList.getD k 0).toNat : Int)
theorem byteAt_eq (s : ByteArray) (k : Nat) (h : k < s.size) : ((s[k]'h).toNat : Int) = byteAt s k := by
  unfold byteAt
  have h' : k < s.data.toList.length := by simpa using h
  rw [List.getD, List.getElem?_eq_getElem h']
  rfl
def isSymB (s : ByteArray) : Bool :=
  inB s.size 1 16 && (!digB (byteAt s 0) && (!(byteAt s 0 == 45 && (decide (1 < s.size) && digB (byteAt s 1))) && (List.range s.size).all fun k => symB (byteAt s k)))
theorem isSym_1 {s : ByteArray} (h : inB s.size 1 16 = false) : isSymB s = false := by simp [isSymB, h]
theorem isSym_2 {s : ByteArray} (h : digB (byteAt s 0) = true) : isSymB s = false := by simp [isSymB, h]
theorem isSym_3 {s : ByteArray} (h : byteAt s 0 = 45) (h1 : 1 < s.size) (h2 : digB (byteAt s 1) = true) : isSymB s = false := by simp [isSymB, h, h1, h2]
theorem isSym_4 {s : ByteArray} {k : Nat} (h : k < s.size) (h1 : symB (byteAt s k) = false) : isSymB s = false := by
  have : (List.range s.size).all (fun k => symB (byteAt s k)) = false := by
    rw [List.all_eq_false]; exact ⟨k, by simpa using h, by simp [h1]⟩
  simp [isSymB, this]
theorem isSym_5 {s : ByteArray} (h : inB s.size 1 16 = true) (h1 : digB (byteAt s 0) = false) (h2 : ¬ (byteAt s 0 = 45 ∧ 1 < s.size ∧ digB (byteAt s 1) = true)) (h3 : ∀ j, j < s.size → symB (byteAt s j) = true) : isSymB s = true := by
  have h4 : (List.range s.size).all (fun k => symB (byteAt s k)) = true := by
    rw [List.all_eq_true]; intro k hk; exact h3 k (by simpa using hk)
  have h5 : (byteAt s 0 == 45 && (decide (1 < s.size) && digB (byteAt s 1))) = false := by
    rw [Bool.eq_false_iff]; intro h; apply h2; simpa using h
  simp [isSymB, h, h1, h4, h5]

def SymHead (s : ByteArray) : Prop := inB s.size 1 16 = true ∧ digB (byteAt s 0) = false ∧ ¬ (byteAt s 0 = 45 ∧ 1 < s.size ∧ digB (byteAt s 1) = true)

theorem w_2 {s : ByteArray} (h0 : 0 < s.size) (h : digB ((s[0]'h0).toNat : Int) = true) : isSymB s = false := isSym_2 (by rw [← byteAt_eq s 0 h0]; exact h)
theorem w_3 {s : ByteArray} (h0 : 0 < s.size) (h1 : 1 < s.size) (h : ((s[0]'h0).toNat : Int) = 45) (h2 : digB ((s[1]'h1).toNat : Int) = true) : isSymB s = false :=
  isSym_3 (by rw [← byteAt_eq s 0 h0]; exact h) h1 (by rw [← byteAt_eq s 1 h1]; exact h2)
theorem hd_a {s : ByteArray} (h0 : 0 < s.size) (h : inB s.size 1 16 = true) (h1 : ¬ digB ((s[0]'h0).toNat : Int) = true) (h2 : ¬ ((s[0]'h0).toNat : Int) = 45) : SymHead s :=
  ⟨h, by rw [← byteAt_eq s 0 h0]; simpa using h1, fun hh => h2 (by rw [byteAt_eq s 0 h0]; exact hh.1)⟩
theorem hd_b {s : ByteArray} (h0 : 0 < s.size) (h : inB s.size 1 16 = true) (h1 : ¬ digB ((s[0]'h0).toNat : Int) = true) (h2 : (s.size : Int) ≤ 1) : SymHead s :=
  ⟨h, by rw [← byteAt_eq s 0 h0]; simpa using h1, fun hh => by omega⟩
theorem hd_c {s : ByteArray} (h0 : 0 < s.size) (h1' : 1 < s.size) (h : inB s.size 1 16 = true) (h1 : ¬ digB ((s[0]'h0).toNat : Int) = true) (h2 : digB ((s[1]'h1').toNat : Int) = false) : SymHead s :=
  ⟨h, by rw [← byteAt_eq s 0 h0]; simpa using h1, fun hh => by rw [← byteAt_eq s 1 h1', h2] at hh; simp at hh⟩

theorem sIsSymbol_calls (s : ByteArray) (w : World) (hs : s.size ≤ 9223372036854775807) : Calls Try.prog 123 #[.string s] w (RetEq (.bool (isSymB s)) w) := by
  by_cases h0 : 0 < s.size
  · go_enter Try.func123, Try.ntmps123
    go_wp2_with (first | (go_at_call 125; refine (l1In_calls _ _ _ _).mono ?_; rintro e w' ⟨rfl, rfl⟩) | (go_at_call 153; refine (l1Digit_calls _ _).mono ?_; rintro e w' ⟨rfl, rfl⟩))
    all_goals try (go_ret; refine ⟨ret_b (Eq.symm ?_), rfl⟩; first | exact w_2 h0 (by assumption) | exact w_3 h0 (by omega) (by assumption) (by assumption) | exact isSym_1 (by simpa using ‹¬ inB _ _ _ = true›))
    all_goals
      have HH : Hid (SymHead s) := by first | exact hd_a h0 ‹_› ‹_› ‹_› | exact hd_b h0 ‹_› ‹_› ‹_› | exact hd_c h0 (by omega) ‹_› ‹_› ‹_›
      try simp only [‹digB _ = false›]
      go_loop [3] (fun i => ∃ k : Nat, k ≤ s.size ∧ i = .int .i64 k ∧ ∀ j, j < k → symB (byteAt s j) = true) (fun i => s.size - (intOf i).toNat)
      case atStart => exact ⟨0, by omega, rfl, fun j h => by omega⟩
      case round =>
        obtain ⟨k, hk, rfl, hno⟩ := hrel
        by_cases hlt : k < s.size
        · have hb := byteAt_eq s k hlt
          have HNO := Lib.hid hno; clear hno; have HB := Lib.hid hb; clear hb
          go_wp2_with (go_at_call 154; refine (l1Mark_calls _ _).mono ?_; rintro e w' ⟨rfl, rfl⟩)
          · go_ret
            exact ⟨ret_b (isSym_4 hlt (by rw [← HB.out]; simpa using ‹(!symB _) = true›)).symm, rfl⟩
          · have hnx : ∀ j, j < k + 1 → symB (byteAt s j) = true := by
              intro j hj
              by_cases e : j = k
              · subst e; rw [← HB.out]; simpa using ‹(!symB _) = false›
              · exact HNO.out j (by omega)
            go_round
            case rel => exact ⟨k + 1, by omega, by go_num, hnx⟩
            case measure => simp [intOf]; omega
        · go_wp2
          go_ret
          have hk11 : k = s.size := by omega
          subst hk11
          exact ⟨ret_b (isSym_5 HH.out.1 HH.out.2.1 HH.out.2.2 hno).symm, rfl⟩
  · have hf : inB s.size 1 16 = false := by simp [inB]; omega
    go_enter Try.func123, Try.ntmps123
    go_wp2_with (first | (go_at_call 125; refine (l1In_calls _ _ _ _).mono ?_; rintro e w' ⟨rfl, rfl⟩) | (go_at_call 153; refine (l1Digit_calls _ _).mono ?_; rintro e w' ⟨rfl, rfl⟩))
    go_ret
    exact ⟨ret_b (isSym_1 hf).symm, rfl⟩

theorem iIsSymbol_calls (s : ByteArray) (w : World) (hs : s.size ≤ 9223372036854775807) : Calls Try.prog 63 #[.string s] w (RetEq (.bool (isSymB s)) w) := by
  by_cases h0 : 0 < s.size
  · by_cases h16 : s.size ≤ 16
    · have hin : inB s.size 1 16 = true := by simp [inB]; omega
      have HI := Lib.hid hin
      clear hin
      have q1 : decide ((s.size : Int) < 1) = false := by simp; omega
      have q2 : decide (16 < (s.size : Int)) = false := by simp; omega
      go_enter Try.func63, Try.ntmps63
      go_wp2_with (go_at_call 116; refine (isDigit_calls _ _).mono ?_; rintro e w' ⟨rfl, rfl⟩)
      all_goals try (go_ret; refine ⟨ret_b (Eq.symm ?_), rfl⟩; first | exact w_2 h0 (by assumption) | exact w_3 h0 (by omega) (by assumption) (by assumption))
      all_goals
        have HH : Hid (SymHead s) := by first | exact hd_a h0 HI.out ‹_› ‹_› | exact hd_b h0 HI.out ‹_› ‹_› | exact hd_c h0 (by omega) HI.out ‹_› ‹_›
        try simp only [‹digB _ = false›]
        go_loop [3] (fun i => ∃ k : Nat, k ≤ s.size ∧ i = .int .i64 k ∧ ∀ j, j < k → symB (byteAt s j) = true) (fun i => s.size - (intOf i).toNat)
        case atStart => exact ⟨0, by omega, rfl, fun j h => by omega⟩
        case round =>
          obtain ⟨k, hk, rfl, hno⟩ := hrel
          by_cases hlt : k < s.size
          · have hb := byteAt_eq s k hlt
            have HNO := Lib.hid hno; clear hno; have HB := Lib.hid hb; clear hb
            go_wp2_with (go_at_call 117; refine (symbolByte_calls _ _).mono ?_; rintro e w' ⟨rfl, rfl⟩)
            · go_ret
              exact ⟨ret_b (isSym_4 hlt (by rw [← HB.out]; simpa using ‹(!symB _) = true›)).symm, rfl⟩
            · have hnx : ∀ j, j < k + 1 → symB (byteAt s j) = true := by
                intro j hj
                by_cases e : j = k
                · subst e; rw [← HB.out]; simpa using ‹(!symB _) = false›
                · exact HNO.out j (by omega)
              go_round
              case rel => exact ⟨k + 1, by omega, by go_num, hnx⟩
              case measure => simp [intOf]; omega
          · go_wp2
            go_ret
            have hk11 : k = s.size := by omega
            subst hk11
            exact ⟨ret_b (isSym_5 HH.out.1 HH.out.2.1 HH.out.2.2 hno).symm, rfl⟩
    · have hf : inB s.size 1 16 = false := by simp [inB]; omega
      have HF := Lib.hid hf
      clear hf
      go_enter Try.func63, Try.ntmps63
      go_wp2
      go_ret
      exact ⟨ret_b (isSym_1 HF.out).symm, rfl⟩
  · have hf : inB s.size 1 16 = false := by simp [inB]; omega
    have HF := Lib.hid hf
    clear hf
    go_enter Try.func63, Try.ntmps63
    go_wp2
    go_ret
    exact ⟨ret_b (isSym_1 HF.out).symm, rfl⟩
end Go.Proofs.Ytoflfamfhpijcaa

