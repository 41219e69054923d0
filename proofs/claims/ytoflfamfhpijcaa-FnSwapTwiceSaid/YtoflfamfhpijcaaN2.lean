/-
  Walks: a node's kind, number, text and length. No condition.
-/
import Derived.Test.YtoflfamfhpijcaaN1
import Derived.Test.YtoflfamfhpijcaaDat
set_option linter.unusedVariables false
set_option linter.unusedSimpArgs false
set_option maxRecDepth 100000
namespace Go.Proofs.Ytoflfamfhpijcaa
open Go.RowKit

noncomputable def nodeB (k n : Int) (s : ByteArray) (l : Int) : Bool :=
  if k = 0 then decide (n = 0) && s.toList.isEmpty
  else if k = 1 then decide (n = 0) && (isSymB s && decide (l = 0))
  else if k = 2 then inB n (-999999999) 999999999 && (s.toList.isEmpty && decide (l = 0))
  else if k = 3 then inB n 0 1 && (s.toList.isEmpty && decide (l = 0))
  else if k = 4 then decide (n = 0) && (strB s && decide (l = 0))
  else false

set_option maxHeartbeats 4000000 in
theorem l1Node_calls (k n : Int) (s : ByteArray) (l : Int) (w : World) (hs : s.size ≤ 9223372036854775807) : Calls Try.prog 120 #[.int .i64 k, .int .i64 n, .string s, .int .i64 l] w (RetEq (.bool (nodeB k n s l)) w) := by
  by_cases k0 : k = 0
  · subst k0
    by_cases hn : n = 0
    · skip
      cases he : s.toList.isEmpty with
      | true =>
        have hy : nodeB 0 n s l = true := by first | (simp [nodeB, *]; done) | (simp [nodeB, *]; decide)
        have HY := Lib.hid hy; clear hy
        go_enter Try.func120, Try.ntmps120
        go_wp2_with (first | (go_at_call 123; refine (sIsSymbol_calls _ _ hs).mono ?_; rintro e w' ⟨rfl, rfl⟩) | (go_at_call 152; refine (l1String_calls _ _ hs).mono ?_; rintro e w' ⟨rfl, rfl⟩) | (go_at_call 125; refine (l1In_calls _ _ _ _).mono ?_; rintro e w' ⟨rfl, rfl⟩))
        all_goals (go_ret; first | exact ⟨ret_b HY.out.symm, rfl⟩ | exact ⟨ret_b (by rw [HY.out]; simp [*]), rfl⟩)
      | false =>
        have hy : nodeB 0 n s l = false := by first | (simp [nodeB, *]; done) | (simp [nodeB, *]; decide)
        have HY := Lib.hid hy; clear hy
        go_enter Try.func120, Try.ntmps120
        go_wp2_with (first | (go_at_call 123; refine (sIsSymbol_calls _ _ hs).mono ?_; rintro e w' ⟨rfl, rfl⟩) | (go_at_call 152; refine (l1String_calls _ _ hs).mono ?_; rintro e w' ⟨rfl, rfl⟩) | (go_at_call 125; refine (l1In_calls _ _ _ _).mono ?_; rintro e w' ⟨rfl, rfl⟩))
        all_goals (go_ret; first | exact ⟨ret_b HY.out.symm, rfl⟩ | exact ⟨ret_b (by rw [HY.out]; simp [*]), rfl⟩)
    · skip
      have hy : nodeB 0 n s l = false := by first | (simp [nodeB, *]; done) | (simp [nodeB, *]; decide)
      have HY := Lib.hid hy; clear hy
      go_enter Try.func120, Try.ntmps120
      go_wp2_with (first | (go_at_call 123; refine (sIsSymbol_calls _ _ hs).mono ?_; rintro e w' ⟨rfl, rfl⟩) | (go_at_call 152; refine (l1String_calls _ _ hs).mono ?_; rintro e w' ⟨rfl, rfl⟩) | (go_at_call 125; refine (l1In_calls _ _ _ _).mono ?_; rintro e w' ⟨rfl, rfl⟩))
      all_goals (go_ret; first | exact ⟨ret_b HY.out.symm, rfl⟩ | exact ⟨ret_b (by rw [HY.out]; simp [*]), rfl⟩)
  by_cases k1 : k = 1
  · subst k1
    by_cases hn : n = 0
    · skip
      cases hy : isSymB s with
      | true =>
        by_cases hl : l = 0
        · skip
          have hy : nodeB 1 n s l = true := by first | (simp [nodeB, *]; done) | (simp [nodeB, *]; decide)
          have HY := Lib.hid hy; clear hy
          go_enter Try.func120, Try.ntmps120
          go_wp2_with (first | (go_at_call 123; refine (sIsSymbol_calls _ _ hs).mono ?_; rintro e w' ⟨rfl, rfl⟩) | (go_at_call 152; refine (l1String_calls _ _ hs).mono ?_; rintro e w' ⟨rfl, rfl⟩) | (go_at_call 125; refine (l1In_calls _ _ _ _).mono ?_; rintro e w' ⟨rfl, rfl⟩))
          all_goals (go_ret; first | exact ⟨ret_b HY.out.symm, rfl⟩ | exact ⟨ret_b (by rw [HY.out]; simp [*]), rfl⟩)
        · skip
          have hy : nodeB 1 n s l = false := by first | (simp [nodeB, *]; done) | (simp [nodeB, *]; decide)
          have HY := Lib.hid hy; clear hy
          go_enter Try.func120, Try.ntmps120
          go_wp2_with (first | (go_at_call 123; refine (sIsSymbol_calls _ _ hs).mono ?_; rintro e w' ⟨rfl, rfl⟩) | (go_at_call 152; refine (l1String_calls _ _ hs).mono ?_; rintro e w' ⟨rfl, rfl⟩) | (go_at_call 125; refine (l1In_calls _ _ _ _).mono ?_; rintro e w' ⟨rfl, rfl⟩))
          all_goals (go_ret; first | exact ⟨ret_b HY.out.symm, rfl⟩ | exact ⟨ret_b (by rw [HY.out]; simp [*]), rfl⟩)
      | false =>
        have hy : nodeB 1 n s l = false := by first | (simp [nodeB, *]; done) | (simp [nodeB, *]; decide)
        have HY := Lib.hid hy; clear hy
        go_enter Try.func120, Try.ntmps120
        go_wp2_with (first | (go_at_call 123; refine (sIsSymbol_calls _ _ hs).mono ?_; rintro e w' ⟨rfl, rfl⟩) | (go_at_call 152; refine (l1String_calls _ _ hs).mono ?_; rintro e w' ⟨rfl, rfl⟩) | (go_at_call 125; refine (l1In_calls _ _ _ _).mono ?_; rintro e w' ⟨rfl, rfl⟩))
        all_goals (go_ret; first | exact ⟨ret_b HY.out.symm, rfl⟩ | exact ⟨ret_b (by rw [HY.out]; simp [*]), rfl⟩)
    · skip
      have hy : nodeB 1 n s l = false := by first | (simp [nodeB, *]; done) | (simp [nodeB, *]; decide)
      have HY := Lib.hid hy; clear hy
      go_enter Try.func120, Try.ntmps120
      go_wp2_with (first | (go_at_call 123; refine (sIsSymbol_calls _ _ hs).mono ?_; rintro e w' ⟨rfl, rfl⟩) | (go_at_call 152; refine (l1String_calls _ _ hs).mono ?_; rintro e w' ⟨rfl, rfl⟩) | (go_at_call 125; refine (l1In_calls _ _ _ _).mono ?_; rintro e w' ⟨rfl, rfl⟩))
      all_goals (go_ret; first | exact ⟨ret_b HY.out.symm, rfl⟩ | exact ⟨ret_b (by rw [HY.out]; simp [*]), rfl⟩)
  by_cases k2 : k = 2
  · subst k2
    by_cases ha : -999999999 ≤ n
    · by_cases hb : n ≤ 999999999
      · have hin : inB n (-999999999) 999999999 = true := by simp [inB, ha, hb]
        cases he : s.toList.isEmpty with
        | true =>
          by_cases hl : l = 0
          · skip
            have hy : nodeB 2 n s l = true := by first | (simp [nodeB, *]; done) | (simp [nodeB, *]; decide)
            have HY := Lib.hid hy; clear hy
            go_enter Try.func120, Try.ntmps120
            go_wp2_with (first | (go_at_call 123; refine (sIsSymbol_calls _ _ hs).mono ?_; rintro e w' ⟨rfl, rfl⟩) | (go_at_call 152; refine (l1String_calls _ _ hs).mono ?_; rintro e w' ⟨rfl, rfl⟩) | (go_at_call 125; refine (l1In_calls _ _ _ _).mono ?_; rintro e w' ⟨rfl, rfl⟩))
            all_goals (go_ret; first | exact ⟨ret_b HY.out.symm, rfl⟩ | exact ⟨ret_b (by rw [HY.out]; simp [*]), rfl⟩)
          · skip
            have hy : nodeB 2 n s l = false := by first | (simp [nodeB, *]; done) | (simp [nodeB, *]; decide)
            have HY := Lib.hid hy; clear hy
            go_enter Try.func120, Try.ntmps120
            go_wp2_with (first | (go_at_call 123; refine (sIsSymbol_calls _ _ hs).mono ?_; rintro e w' ⟨rfl, rfl⟩) | (go_at_call 152; refine (l1String_calls _ _ hs).mono ?_; rintro e w' ⟨rfl, rfl⟩) | (go_at_call 125; refine (l1In_calls _ _ _ _).mono ?_; rintro e w' ⟨rfl, rfl⟩))
            all_goals (go_ret; first | exact ⟨ret_b HY.out.symm, rfl⟩ | exact ⟨ret_b (by rw [HY.out]; simp [*]), rfl⟩)
        | false =>
          have hy : nodeB 2 n s l = false := by first | (simp [nodeB, *]; done) | (simp [nodeB, *]; decide)
          have HY := Lib.hid hy; clear hy
          go_enter Try.func120, Try.ntmps120
          go_wp2_with (first | (go_at_call 123; refine (sIsSymbol_calls _ _ hs).mono ?_; rintro e w' ⟨rfl, rfl⟩) | (go_at_call 152; refine (l1String_calls _ _ hs).mono ?_; rintro e w' ⟨rfl, rfl⟩) | (go_at_call 125; refine (l1In_calls _ _ _ _).mono ?_; rintro e w' ⟨rfl, rfl⟩))
          all_goals (go_ret; first | exact ⟨ret_b HY.out.symm, rfl⟩ | exact ⟨ret_b (by rw [HY.out]; simp [*]), rfl⟩)
      · have hin : inB n (-999999999) 999999999 = false := by simp [inB, ha, hb]
        have hy : nodeB 2 n s l = false := by first | (simp [nodeB, *]; done) | (simp [nodeB, *]; decide)
        have HY := Lib.hid hy; clear hy
        go_enter Try.func120, Try.ntmps120
        go_wp2_with (first | (go_at_call 123; refine (sIsSymbol_calls _ _ hs).mono ?_; rintro e w' ⟨rfl, rfl⟩) | (go_at_call 152; refine (l1String_calls _ _ hs).mono ?_; rintro e w' ⟨rfl, rfl⟩) | (go_at_call 125; refine (l1In_calls _ _ _ _).mono ?_; rintro e w' ⟨rfl, rfl⟩))
        all_goals (go_ret; first | exact ⟨ret_b HY.out.symm, rfl⟩ | exact ⟨ret_b (by rw [HY.out]; simp [*]), rfl⟩)
    · have hin : inB n (-999999999) 999999999 = false := by simp [inB, ha]
      have hy : nodeB 2 n s l = false := by first | (simp [nodeB, *]; done) | (simp [nodeB, *]; decide)
      have HY := Lib.hid hy; clear hy
      go_enter Try.func120, Try.ntmps120
      go_wp2_with (first | (go_at_call 123; refine (sIsSymbol_calls _ _ hs).mono ?_; rintro e w' ⟨rfl, rfl⟩) | (go_at_call 152; refine (l1String_calls _ _ hs).mono ?_; rintro e w' ⟨rfl, rfl⟩) | (go_at_call 125; refine (l1In_calls _ _ _ _).mono ?_; rintro e w' ⟨rfl, rfl⟩))
      all_goals (go_ret; first | exact ⟨ret_b HY.out.symm, rfl⟩ | exact ⟨ret_b (by rw [HY.out]; simp [*]), rfl⟩)
  by_cases k3 : k = 3
  · subst k3
    by_cases ha : n = 0
    · have hin : inB n 0 1 = true := by rw [ha]; decide
      cases he : s.toList.isEmpty with
      | true =>
        by_cases hl : l = 0
        · skip
          have hy : nodeB 3 n s l = true := by first | (simp [nodeB, *]; done) | (simp [nodeB, *]; decide)
          have HY := Lib.hid hy; clear hy
          go_enter Try.func120, Try.ntmps120
          go_wp2_with (first | (go_at_call 123; refine (sIsSymbol_calls _ _ hs).mono ?_; rintro e w' ⟨rfl, rfl⟩) | (go_at_call 152; refine (l1String_calls _ _ hs).mono ?_; rintro e w' ⟨rfl, rfl⟩) | (go_at_call 125; refine (l1In_calls _ _ _ _).mono ?_; rintro e w' ⟨rfl, rfl⟩))
          all_goals (go_ret; first | exact ⟨ret_b HY.out.symm, rfl⟩ | exact ⟨ret_b (by rw [HY.out]; simp [*]), rfl⟩)
        · skip
          have hy : nodeB 3 n s l = false := by first | (simp [nodeB, *]; done) | (simp [nodeB, *]; decide)
          have HY := Lib.hid hy; clear hy
          go_enter Try.func120, Try.ntmps120
          go_wp2_with (first | (go_at_call 123; refine (sIsSymbol_calls _ _ hs).mono ?_; rintro e w' ⟨rfl, rfl⟩) | (go_at_call 152; refine (l1String_calls _ _ hs).mono ?_; rintro e w' ⟨rfl, rfl⟩) | (go_at_call 125; refine (l1In_calls _ _ _ _).mono ?_; rintro e w' ⟨rfl, rfl⟩))
          all_goals (go_ret; first | exact ⟨ret_b HY.out.symm, rfl⟩ | exact ⟨ret_b (by rw [HY.out]; simp [*]), rfl⟩)
      | false =>
        have hy : nodeB 3 n s l = false := by first | (simp [nodeB, *]; done) | (simp [nodeB, *]; decide)
        have HY := Lib.hid hy; clear hy
        go_enter Try.func120, Try.ntmps120
        go_wp2_with (first | (go_at_call 123; refine (sIsSymbol_calls _ _ hs).mono ?_; rintro e w' ⟨rfl, rfl⟩) | (go_at_call 152; refine (l1String_calls _ _ hs).mono ?_; rintro e w' ⟨rfl, rfl⟩) | (go_at_call 125; refine (l1In_calls _ _ _ _).mono ?_; rintro e w' ⟨rfl, rfl⟩))
        all_goals (go_ret; first | exact ⟨ret_b HY.out.symm, rfl⟩ | exact ⟨ret_b (by rw [HY.out]; simp [*]), rfl⟩)
    · by_cases hb : n = 1
      · have hin : inB n 0 1 = true := by rw [hb]; decide
        cases he : s.toList.isEmpty with
        | true =>
          by_cases hl : l = 0
          · skip
            have hy : nodeB 3 n s l = true := by first | (simp [nodeB, *]; done) | (simp [nodeB, *]; decide)
            have HY := Lib.hid hy; clear hy
            go_enter Try.func120, Try.ntmps120
            go_wp2_with (first | (go_at_call 123; refine (sIsSymbol_calls _ _ hs).mono ?_; rintro e w' ⟨rfl, rfl⟩) | (go_at_call 152; refine (l1String_calls _ _ hs).mono ?_; rintro e w' ⟨rfl, rfl⟩) | (go_at_call 125; refine (l1In_calls _ _ _ _).mono ?_; rintro e w' ⟨rfl, rfl⟩))
            all_goals (go_ret; first | exact ⟨ret_b HY.out.symm, rfl⟩ | exact ⟨ret_b (by rw [HY.out]; simp [*]), rfl⟩)
          · skip
            have hy : nodeB 3 n s l = false := by first | (simp [nodeB, *]; done) | (simp [nodeB, *]; decide)
            have HY := Lib.hid hy; clear hy
            go_enter Try.func120, Try.ntmps120
            go_wp2_with (first | (go_at_call 123; refine (sIsSymbol_calls _ _ hs).mono ?_; rintro e w' ⟨rfl, rfl⟩) | (go_at_call 152; refine (l1String_calls _ _ hs).mono ?_; rintro e w' ⟨rfl, rfl⟩) | (go_at_call 125; refine (l1In_calls _ _ _ _).mono ?_; rintro e w' ⟨rfl, rfl⟩))
            all_goals (go_ret; first | exact ⟨ret_b HY.out.symm, rfl⟩ | exact ⟨ret_b (by rw [HY.out]; simp [*]), rfl⟩)
        | false =>
          have hy : nodeB 3 n s l = false := by first | (simp [nodeB, *]; done) | (simp [nodeB, *]; decide)
          have HY := Lib.hid hy; clear hy
          go_enter Try.func120, Try.ntmps120
          go_wp2_with (first | (go_at_call 123; refine (sIsSymbol_calls _ _ hs).mono ?_; rintro e w' ⟨rfl, rfl⟩) | (go_at_call 152; refine (l1String_calls _ _ hs).mono ?_; rintro e w' ⟨rfl, rfl⟩) | (go_at_call 125; refine (l1In_calls _ _ _ _).mono ?_; rintro e w' ⟨rfl, rfl⟩))
          all_goals (go_ret; first | exact ⟨ret_b HY.out.symm, rfl⟩ | exact ⟨ret_b (by rw [HY.out]; simp [*]), rfl⟩)
      · have hin : inB n 0 1 = false := by simp [inB]; omega
        have hy : nodeB 3 n s l = false := by first | (simp [nodeB, *]; done) | (simp [nodeB, *]; decide)
        have HY := Lib.hid hy; clear hy
        go_enter Try.func120, Try.ntmps120
        go_wp2_with (first | (go_at_call 123; refine (sIsSymbol_calls _ _ hs).mono ?_; rintro e w' ⟨rfl, rfl⟩) | (go_at_call 152; refine (l1String_calls _ _ hs).mono ?_; rintro e w' ⟨rfl, rfl⟩) | (go_at_call 125; refine (l1In_calls _ _ _ _).mono ?_; rintro e w' ⟨rfl, rfl⟩))
        all_goals (go_ret; first | exact ⟨ret_b HY.out.symm, rfl⟩ | exact ⟨ret_b (by rw [HY.out]; simp [*]), rfl⟩)
  by_cases k4 : k = 4
  · subst k4
    by_cases hn : n = 0
    · skip
      cases ht : strB s with
      | true =>
        by_cases hl : l = 0
        · skip
          have hy : nodeB 4 n s l = true := by first | (simp [nodeB, *]; done) | (simp [nodeB, *]; decide)
          have HY := Lib.hid hy; clear hy
          go_enter Try.func120, Try.ntmps120
          go_wp2_with (first | (go_at_call 123; refine (sIsSymbol_calls _ _ hs).mono ?_; rintro e w' ⟨rfl, rfl⟩) | (go_at_call 152; refine (l1String_calls _ _ hs).mono ?_; rintro e w' ⟨rfl, rfl⟩) | (go_at_call 125; refine (l1In_calls _ _ _ _).mono ?_; rintro e w' ⟨rfl, rfl⟩))
          all_goals (go_ret; first | exact ⟨ret_b HY.out.symm, rfl⟩ | exact ⟨ret_b (by rw [HY.out]; simp [*]), rfl⟩)
        · skip
          have hy : nodeB 4 n s l = false := by first | (simp [nodeB, *]; done) | (simp [nodeB, *]; decide)
          have HY := Lib.hid hy; clear hy
          go_enter Try.func120, Try.ntmps120
          go_wp2_with (first | (go_at_call 123; refine (sIsSymbol_calls _ _ hs).mono ?_; rintro e w' ⟨rfl, rfl⟩) | (go_at_call 152; refine (l1String_calls _ _ hs).mono ?_; rintro e w' ⟨rfl, rfl⟩) | (go_at_call 125; refine (l1In_calls _ _ _ _).mono ?_; rintro e w' ⟨rfl, rfl⟩))
          all_goals (go_ret; first | exact ⟨ret_b HY.out.symm, rfl⟩ | exact ⟨ret_b (by rw [HY.out]; simp [*]), rfl⟩)
      | false =>
        have hy : nodeB 4 n s l = false := by first | (simp [nodeB, *]; done) | (simp [nodeB, *]; decide)
        have HY := Lib.hid hy; clear hy
        go_enter Try.func120, Try.ntmps120
        go_wp2_with (first | (go_at_call 123; refine (sIsSymbol_calls _ _ hs).mono ?_; rintro e w' ⟨rfl, rfl⟩) | (go_at_call 152; refine (l1String_calls _ _ hs).mono ?_; rintro e w' ⟨rfl, rfl⟩) | (go_at_call 125; refine (l1In_calls _ _ _ _).mono ?_; rintro e w' ⟨rfl, rfl⟩))
        all_goals (go_ret; first | exact ⟨ret_b HY.out.symm, rfl⟩ | exact ⟨ret_b (by rw [HY.out]; simp [*]), rfl⟩)
    · skip
      have hy : nodeB 4 n s l = false := by first | (simp [nodeB, *]; done) | (simp [nodeB, *]; decide)
      have HY := Lib.hid hy; clear hy
      go_enter Try.func120, Try.ntmps120
      go_wp2_with (first | (go_at_call 123; refine (sIsSymbol_calls _ _ hs).mono ?_; rintro e w' ⟨rfl, rfl⟩) | (go_at_call 152; refine (l1String_calls _ _ hs).mono ?_; rintro e w' ⟨rfl, rfl⟩) | (go_at_call 125; refine (l1In_calls _ _ _ _).mono ?_; rintro e w' ⟨rfl, rfl⟩))
      all_goals (go_ret; first | exact ⟨ret_b HY.out.symm, rfl⟩ | exact ⟨ret_b (by rw [HY.out]; simp [*]), rfl⟩)
  have hy : nodeB k n s l = false := by first | (simp [nodeB, *]; done) | (simp [nodeB, *]; decide)
  have HY := Lib.hid hy; clear hy
  go_enter Try.func120, Try.ntmps120
  go_wp2_with (first | (go_at_call 123; refine (sIsSymbol_calls _ _ hs).mono ?_; rintro e w' ⟨rfl, rfl⟩) | (go_at_call 152; refine (l1String_calls _ _ hs).mono ?_; rintro e w' ⟨rfl, rfl⟩) | (go_at_call 125; refine (l1In_calls _ _ _ _).mono ?_; rintro e w' ⟨rfl, rfl⟩))
  all_goals (go_ret; first | exact ⟨ret_b HY.out.symm, rfl⟩ | exact ⟨ret_b (by rw [HY.out]; simp [*]), rfl⟩)
set_option maxHeartbeats 4000000 in
theorem rightNode_calls (k n : Int) (s : ByteArray) (l : Int) (w : World) (hs : s.size ≤ 9223372036854775807) : Calls Try.prog 119 #[.int .i64 k, .int .i64 n, .string s, .int .i64 l] w (RetEq (.bool (nodeB k n s l)) w) := by
  by_cases k0 : k = 0
  · subst k0
    by_cases hn : n = 0
    · skip
      cases he : s.toList.isEmpty with
      | true =>
        have hy : nodeB 0 n s l = true := by first | (simp [nodeB, *]; done) | (simp [nodeB, *]; decide)
        have HY := Lib.hid hy; clear hy
        go_enter Try.func119, Try.ntmps119
        go_wp2_with (first | (go_at_call 63; refine (iIsSymbol_calls _ _ hs).mono ?_; rintro e w' ⟨rfl, rfl⟩) | (go_at_call 151; refine (stringText_calls _ _ hs).mono ?_; rintro e w' ⟨rfl, rfl⟩))
        all_goals (go_ret; first | exact ⟨ret_b HY.out.symm, rfl⟩ | exact ⟨ret_b (by rw [HY.out]; simp [*]), rfl⟩)
      | false =>
        have hy : nodeB 0 n s l = false := by first | (simp [nodeB, *]; done) | (simp [nodeB, *]; decide)
        have HY := Lib.hid hy; clear hy
        go_enter Try.func119, Try.ntmps119
        go_wp2_with (first | (go_at_call 63; refine (iIsSymbol_calls _ _ hs).mono ?_; rintro e w' ⟨rfl, rfl⟩) | (go_at_call 151; refine (stringText_calls _ _ hs).mono ?_; rintro e w' ⟨rfl, rfl⟩))
        all_goals (go_ret; first | exact ⟨ret_b HY.out.symm, rfl⟩ | exact ⟨ret_b (by rw [HY.out]; simp [*]), rfl⟩)
    · skip
      have hy : nodeB 0 n s l = false := by first | (simp [nodeB, *]; done) | (simp [nodeB, *]; decide)
      have HY := Lib.hid hy; clear hy
      go_enter Try.func119, Try.ntmps119
      go_wp2_with (first | (go_at_call 63; refine (iIsSymbol_calls _ _ hs).mono ?_; rintro e w' ⟨rfl, rfl⟩) | (go_at_call 151; refine (stringText_calls _ _ hs).mono ?_; rintro e w' ⟨rfl, rfl⟩))
      all_goals (go_ret; first | exact ⟨ret_b HY.out.symm, rfl⟩ | exact ⟨ret_b (by rw [HY.out]; simp [*]), rfl⟩)
  by_cases k1 : k = 1
  · subst k1
    by_cases hn : n = 0
    · skip
      cases hy : isSymB s with
      | true =>
        by_cases hl : l = 0
        · skip
          have hy : nodeB 1 n s l = true := by first | (simp [nodeB, *]; done) | (simp [nodeB, *]; decide)
          have HY := Lib.hid hy; clear hy
          go_enter Try.func119, Try.ntmps119
          go_wp2_with (first | (go_at_call 63; refine (iIsSymbol_calls _ _ hs).mono ?_; rintro e w' ⟨rfl, rfl⟩) | (go_at_call 151; refine (stringText_calls _ _ hs).mono ?_; rintro e w' ⟨rfl, rfl⟩))
          all_goals (go_ret; first | exact ⟨ret_b HY.out.symm, rfl⟩ | exact ⟨ret_b (by rw [HY.out]; simp [*]), rfl⟩)
        · skip
          have hy : nodeB 1 n s l = false := by first | (simp [nodeB, *]; done) | (simp [nodeB, *]; decide)
          have HY := Lib.hid hy; clear hy
          go_enter Try.func119, Try.ntmps119
          go_wp2_with (first | (go_at_call 63; refine (iIsSymbol_calls _ _ hs).mono ?_; rintro e w' ⟨rfl, rfl⟩) | (go_at_call 151; refine (stringText_calls _ _ hs).mono ?_; rintro e w' ⟨rfl, rfl⟩))
          all_goals (go_ret; first | exact ⟨ret_b HY.out.symm, rfl⟩ | exact ⟨ret_b (by rw [HY.out]; simp [*]), rfl⟩)
      | false =>
        have hy : nodeB 1 n s l = false := by first | (simp [nodeB, *]; done) | (simp [nodeB, *]; decide)
        have HY := Lib.hid hy; clear hy
        go_enter Try.func119, Try.ntmps119
        go_wp2_with (first | (go_at_call 63; refine (iIsSymbol_calls _ _ hs).mono ?_; rintro e w' ⟨rfl, rfl⟩) | (go_at_call 151; refine (stringText_calls _ _ hs).mono ?_; rintro e w' ⟨rfl, rfl⟩))
        all_goals (go_ret; first | exact ⟨ret_b HY.out.symm, rfl⟩ | exact ⟨ret_b (by rw [HY.out]; simp [*]), rfl⟩)
    · skip
      have hy : nodeB 1 n s l = false := by first | (simp [nodeB, *]; done) | (simp [nodeB, *]; decide)
      have HY := Lib.hid hy; clear hy
      go_enter Try.func119, Try.ntmps119
      go_wp2_with (first | (go_at_call 63; refine (iIsSymbol_calls _ _ hs).mono ?_; rintro e w' ⟨rfl, rfl⟩) | (go_at_call 151; refine (stringText_calls _ _ hs).mono ?_; rintro e w' ⟨rfl, rfl⟩))
      all_goals (go_ret; first | exact ⟨ret_b HY.out.symm, rfl⟩ | exact ⟨ret_b (by rw [HY.out]; simp [*]), rfl⟩)
  by_cases k2 : k = 2
  · subst k2
    by_cases ha : -999999999 ≤ n
    · by_cases hb : n ≤ 999999999
      · have hin : inB n (-999999999) 999999999 = true := by simp [inB, ha, hb]
        cases he : s.toList.isEmpty with
        | true =>
          by_cases hl : l = 0
          · skip
            have hy : nodeB 2 n s l = true := by first | (simp [nodeB, *]; done) | (simp [nodeB, *]; decide)
            have HY := Lib.hid hy; clear hy
            go_enter Try.func119, Try.ntmps119
            go_wp2_with (first | (go_at_call 63; refine (iIsSymbol_calls _ _ hs).mono ?_; rintro e w' ⟨rfl, rfl⟩) | (go_at_call 151; refine (stringText_calls _ _ hs).mono ?_; rintro e w' ⟨rfl, rfl⟩))
            all_goals (go_ret; first | exact ⟨ret_b HY.out.symm, rfl⟩ | exact ⟨ret_b (by rw [HY.out]; simp [*]), rfl⟩)
          · skip
            have hy : nodeB 2 n s l = false := by first | (simp [nodeB, *]; done) | (simp [nodeB, *]; decide)
            have HY := Lib.hid hy; clear hy
            go_enter Try.func119, Try.ntmps119
            go_wp2_with (first | (go_at_call 63; refine (iIsSymbol_calls _ _ hs).mono ?_; rintro e w' ⟨rfl, rfl⟩) | (go_at_call 151; refine (stringText_calls _ _ hs).mono ?_; rintro e w' ⟨rfl, rfl⟩))
            all_goals (go_ret; first | exact ⟨ret_b HY.out.symm, rfl⟩ | exact ⟨ret_b (by rw [HY.out]; simp [*]), rfl⟩)
        | false =>
          have hy : nodeB 2 n s l = false := by first | (simp [nodeB, *]; done) | (simp [nodeB, *]; decide)
          have HY := Lib.hid hy; clear hy
          go_enter Try.func119, Try.ntmps119
          go_wp2_with (first | (go_at_call 63; refine (iIsSymbol_calls _ _ hs).mono ?_; rintro e w' ⟨rfl, rfl⟩) | (go_at_call 151; refine (stringText_calls _ _ hs).mono ?_; rintro e w' ⟨rfl, rfl⟩))
          all_goals (go_ret; first | exact ⟨ret_b HY.out.symm, rfl⟩ | exact ⟨ret_b (by rw [HY.out]; simp [*]), rfl⟩)
      · have hin : inB n (-999999999) 999999999 = false := by simp [inB, ha, hb]
        have hy : nodeB 2 n s l = false := by first | (simp [nodeB, *]; done) | (simp [nodeB, *]; decide)
        have HY := Lib.hid hy; clear hy
        go_enter Try.func119, Try.ntmps119
        go_wp2_with (first | (go_at_call 63; refine (iIsSymbol_calls _ _ hs).mono ?_; rintro e w' ⟨rfl, rfl⟩) | (go_at_call 151; refine (stringText_calls _ _ hs).mono ?_; rintro e w' ⟨rfl, rfl⟩))
        all_goals (go_ret; first | exact ⟨ret_b HY.out.symm, rfl⟩ | exact ⟨ret_b (by rw [HY.out]; simp [*]), rfl⟩)
    · have hin : inB n (-999999999) 999999999 = false := by simp [inB, ha]
      have hy : nodeB 2 n s l = false := by first | (simp [nodeB, *]; done) | (simp [nodeB, *]; decide)
      have HY := Lib.hid hy; clear hy
      go_enter Try.func119, Try.ntmps119
      go_wp2_with (first | (go_at_call 63; refine (iIsSymbol_calls _ _ hs).mono ?_; rintro e w' ⟨rfl, rfl⟩) | (go_at_call 151; refine (stringText_calls _ _ hs).mono ?_; rintro e w' ⟨rfl, rfl⟩))
      all_goals (go_ret; first | exact ⟨ret_b HY.out.symm, rfl⟩ | exact ⟨ret_b (by rw [HY.out]; simp [*]), rfl⟩)
  by_cases k3 : k = 3
  · subst k3
    by_cases ha : n = 0
    · have hin : inB n 0 1 = true := by rw [ha]; decide
      cases he : s.toList.isEmpty with
      | true =>
        by_cases hl : l = 0
        · skip
          have hy : nodeB 3 n s l = true := by first | (simp [nodeB, *]; done) | (simp [nodeB, *]; decide)
          have HY := Lib.hid hy; clear hy
          go_enter Try.func119, Try.ntmps119
          go_wp2_with (first | (go_at_call 63; refine (iIsSymbol_calls _ _ hs).mono ?_; rintro e w' ⟨rfl, rfl⟩) | (go_at_call 151; refine (stringText_calls _ _ hs).mono ?_; rintro e w' ⟨rfl, rfl⟩))
          all_goals (go_ret; first | exact ⟨ret_b HY.out.symm, rfl⟩ | exact ⟨ret_b (by rw [HY.out]; simp [*]), rfl⟩)
        · skip
          have hy : nodeB 3 n s l = false := by first | (simp [nodeB, *]; done) | (simp [nodeB, *]; decide)
          have HY := Lib.hid hy; clear hy
          go_enter Try.func119, Try.ntmps119
          go_wp2_with (first | (go_at_call 63; refine (iIsSymbol_calls _ _ hs).mono ?_; rintro e w' ⟨rfl, rfl⟩) | (go_at_call 151; refine (stringText_calls _ _ hs).mono ?_; rintro e w' ⟨rfl, rfl⟩))
          all_goals (go_ret; first | exact ⟨ret_b HY.out.symm, rfl⟩ | exact ⟨ret_b (by rw [HY.out]; simp [*]), rfl⟩)
      | false =>
        have hy : nodeB 3 n s l = false := by first | (simp [nodeB, *]; done) | (simp [nodeB, *]; decide)
        have HY := Lib.hid hy; clear hy
        go_enter Try.func119, Try.ntmps119
        go_wp2_with (first | (go_at_call 63; refine (iIsSymbol_calls _ _ hs).mono ?_; rintro e w' ⟨rfl, rfl⟩) | (go_at_call 151; refine (stringText_calls _ _ hs).mono ?_; rintro e w' ⟨rfl, rfl⟩))
        all_goals (go_ret; first | exact ⟨ret_b HY.out.symm, rfl⟩ | exact ⟨ret_b (by rw [HY.out]; simp [*]), rfl⟩)
    · by_cases hb : n = 1
      · have hin : inB n 0 1 = true := by rw [hb]; decide
        cases he : s.toList.isEmpty with
        | true =>
          by_cases hl : l = 0
          · skip
            have hy : nodeB 3 n s l = true := by first | (simp [nodeB, *]; done) | (simp [nodeB, *]; decide)
            have HY := Lib.hid hy; clear hy
            go_enter Try.func119, Try.ntmps119
            go_wp2_with (first | (go_at_call 63; refine (iIsSymbol_calls _ _ hs).mono ?_; rintro e w' ⟨rfl, rfl⟩) | (go_at_call 151; refine (stringText_calls _ _ hs).mono ?_; rintro e w' ⟨rfl, rfl⟩))
            all_goals (go_ret; first | exact ⟨ret_b HY.out.symm, rfl⟩ | exact ⟨ret_b (by rw [HY.out]; simp [*]), rfl⟩)
          · skip
            have hy : nodeB 3 n s l = false := by first | (simp [nodeB, *]; done) | (simp [nodeB, *]; decide)
            have HY := Lib.hid hy; clear hy
            go_enter Try.func119, Try.ntmps119
            go_wp2_with (first | (go_at_call 63; refine (iIsSymbol_calls _ _ hs).mono ?_; rintro e w' ⟨rfl, rfl⟩) | (go_at_call 151; refine (stringText_calls _ _ hs).mono ?_; rintro e w' ⟨rfl, rfl⟩))
            all_goals (go_ret; first | exact ⟨ret_b HY.out.symm, rfl⟩ | exact ⟨ret_b (by rw [HY.out]; simp [*]), rfl⟩)
        | false =>
          have hy : nodeB 3 n s l = false := by first | (simp [nodeB, *]; done) | (simp [nodeB, *]; decide)
          have HY := Lib.hid hy; clear hy
          go_enter Try.func119, Try.ntmps119
          go_wp2_with (first | (go_at_call 63; refine (iIsSymbol_calls _ _ hs).mono ?_; rintro e w' ⟨rfl, rfl⟩) | (go_at_call 151; refine (stringText_calls _ _ hs).mono ?_; rintro e w' ⟨rfl, rfl⟩))
          all_goals (go_ret; first | exact ⟨ret_b HY.out.symm, rfl⟩ | exact ⟨ret_b (by rw [HY.out]; simp [*]), rfl⟩)
      · have hin : inB n 0 1 = false := by simp [inB]; omega
        have hy : nodeB 3 n s l = false := by first | (simp [nodeB, *]; done) | (simp [nodeB, *]; decide)
        have HY := Lib.hid hy; clear hy
        go_enter Try.func119, Try.ntmps119
        go_wp2_with (first | (go_at_call 63; refine (iIsSymbol_calls _ _ hs).mono ?_; rintro e w' ⟨rfl, rfl⟩) | (go_at_call 151; refine (stringText_calls _ _ hs).mono ?_; rintro e w' ⟨rfl, rfl⟩))
        all_goals (go_ret; first | exact ⟨ret_b HY.out.symm, rfl⟩ | exact ⟨ret_b (by rw [HY.out]; simp [*]), rfl⟩)
  by_cases k4 : k = 4
  · subst k4
    by_cases hn : n = 0
    · skip
      cases ht : strB s with
      | true =>
        by_cases hl : l = 0
        · skip
          have hy : nodeB 4 n s l = true := by first | (simp [nodeB, *]; done) | (simp [nodeB, *]; decide)
          have HY := Lib.hid hy; clear hy
          go_enter Try.func119, Try.ntmps119
          go_wp2_with (first | (go_at_call 63; refine (iIsSymbol_calls _ _ hs).mono ?_; rintro e w' ⟨rfl, rfl⟩) | (go_at_call 151; refine (stringText_calls _ _ hs).mono ?_; rintro e w' ⟨rfl, rfl⟩))
          all_goals (go_ret; first | exact ⟨ret_b HY.out.symm, rfl⟩ | exact ⟨ret_b (by rw [HY.out]; simp [*]), rfl⟩)
        · skip
          have hy : nodeB 4 n s l = false := by first | (simp [nodeB, *]; done) | (simp [nodeB, *]; decide)
          have HY := Lib.hid hy; clear hy
          go_enter Try.func119, Try.ntmps119
          go_wp2_with (first | (go_at_call 63; refine (iIsSymbol_calls _ _ hs).mono ?_; rintro e w' ⟨rfl, rfl⟩) | (go_at_call 151; refine (stringText_calls _ _ hs).mono ?_; rintro e w' ⟨rfl, rfl⟩))
          all_goals (go_ret; first | exact ⟨ret_b HY.out.symm, rfl⟩ | exact ⟨ret_b (by rw [HY.out]; simp [*]), rfl⟩)
      | false =>
        have hy : nodeB 4 n s l = false := by first | (simp [nodeB, *]; done) | (simp [nodeB, *]; decide)
        have HY := Lib.hid hy; clear hy
        go_enter Try.func119, Try.ntmps119
        go_wp2_with (first | (go_at_call 63; refine (iIsSymbol_calls _ _ hs).mono ?_; rintro e w' ⟨rfl, rfl⟩) | (go_at_call 151; refine (stringText_calls _ _ hs).mono ?_; rintro e w' ⟨rfl, rfl⟩))
        all_goals (go_ret; first | exact ⟨ret_b HY.out.symm, rfl⟩ | exact ⟨ret_b (by rw [HY.out]; simp [*]), rfl⟩)
    · skip
      have hy : nodeB 4 n s l = false := by first | (simp [nodeB, *]; done) | (simp [nodeB, *]; decide)
      have HY := Lib.hid hy; clear hy
      go_enter Try.func119, Try.ntmps119
      go_wp2_with (first | (go_at_call 63; refine (iIsSymbol_calls _ _ hs).mono ?_; rintro e w' ⟨rfl, rfl⟩) | (go_at_call 151; refine (stringText_calls _ _ hs).mono ?_; rintro e w' ⟨rfl, rfl⟩))
      all_goals (go_ret; first | exact ⟨ret_b HY.out.symm, rfl⟩ | exact ⟨ret_b (by rw [HY.out]; simp [*]), rfl⟩)
  have hy : nodeB k n s l = false := by first | (simp [nodeB, *]; done) | (simp [nodeB, *]; decide)
  have HY := Lib.hid hy; clear hy
  go_enter Try.func119, Try.ntmps119
  go_wp2_with (first | (go_at_call 63; refine (iIsSymbol_calls _ _ hs).mono ?_; rintro e w' ⟨rfl, rfl⟩) | (go_at_call 151; refine (stringText_calls _ _ hs).mono ?_; rintro e w' ⟨rfl, rfl⟩))
  all_goals (go_ret; first | exact ⟨ret_b HY.out.symm, rfl⟩ | exact ⟨ret_b (by rw [HY.out]; simp [*]), rfl⟩)
end Go.Proofs.Ytoflfamfhpijcaa
