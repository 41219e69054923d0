/-
  Walks: the reference's text of a datum. No condition.
-/
import Derived.Test.YtoflfamfhpijcaaDoorF2
import Derived.Test.YtoflfamfhpijcaaDoorStrP
import Derived.Test.YtoflfamfhpijcaaDoorN6
set_option linter.unusedVariables false
set_option linter.unusedSimpArgs false
set_option maxRecDepth 100000
namespace Go.Proofs.YtoflfamfhpijcaaDoor
open Go.RowKit

/-- texts as strings -/
def tx (l : List (List UInt8)) : List ByteArray := l.map fun x => ⟨x.toArray⟩
theorem tx_length (l : List (List UInt8)) : (tx l).length = l.length := by simp [tx]
theorem tx_snoc (l : List (List UInt8)) (x : List UInt8) : tx l ++ [⟨x.toArray⟩] = tx (l ++ [x]) := by simp [tx]
theorem tx_get {l : List (List UInt8)} {k : Nat} {b : ByteArray} (h : (tx l)[k]? = some b) : ∃ x, l[k]? = some x ∧ b = ⟨x.toArray⟩ := by
  simp only [tx, List.getElem?_map, Option.map_eq_some_iff] at h
  obtain ⟨x, hx, rfl⟩ := h
  exact ⟨x, hx, rfl⟩
theorem baOf {b : ByteArray} {l : List UInt8} (h : b.data.toList = l) : b = ⟨l.toArray⟩ := by subst h; rfl
theorem baApp (a b : List UInt8) : (⟨a.toArray⟩ ++ ⟨b.toArray⟩ : ByteArray) = ⟨(a ++ b).toArray⟩ := ByteArray.mk_append_mk a b
theorem sum_take_le (f : List UInt8 → Nat) : ∀ (l : List (List UInt8)) (k : Nat), ((l.take k).map f).sum ≤ (l.map f).sum
  | [], k => by simp
  | a :: r, 0 => by simp
  | a :: r, k + 1 => by have := sum_take_le f r k; rw [List.take_succ_cons, List.map_cons, List.map_cons, List.sum_cons, List.sum_cons]; omega
theorem join_take_le (sep : List UInt8) (l : List (List UInt8)) (k : Nat) : (joinB sep (l.take k)).length ≤ (l.map fun x => x.length + sep.length).sum :=
  Nat.le_trans (joinB_length sep _) (sum_take_le _ _ _)
theorem elem_le : ∀ {l : List (List UInt8)} {k : Nat} {x : List UInt8} (f : List UInt8 → Nat), l[k]? = some x → f x ≤ (l.map f).sum
  | [], k, x, f, h => by simp at h
  | a :: r, 0, x, f, h => by simp at h; subst h; simp
  | a :: r, k + 1, x, f, h => by have := elem_le f (l := r) (k := k) (by simpa using h); rw [List.map_cons, List.sum_cons]; omega
set_option maxHeartbeats 1000000 in
theorem l1Join_calls (a : Option Addr) (cap : Nat) (l : List (List UInt8)) (sep : List UInt8) (w : World) (h : (M.sl a cap 1 9 (strM (tx l))).In w) (hB : (l.map fun x => x.length + sep.length).sum ≤ 1000000000000) (hS : sep.length ≤ 1000) :
    Calls Tryd.prog 110 #[.slice a (tx l).length cap, .string ⟨sep.toArray⟩] w (RetEq (.string ⟨(joinB sep l).toArray⟩) w) := by
  have hl := Strs.len h
  have hn := tx_length l
  have H := Lib.hid h; clear h
  go_enter Tryd.func110, Tryd.ntmps110
  go_wp2_with fail
  go_loopw [5, 6, 7, 10] (fun o u v i wr => ∃ (k : Nat), k ≤ l.length ∧ i = .int .i64 k ∧ o = .string ⟨(joinB sep (l.take k)).toArray⟩ ∧ wr = w) (fun _ _ _ i _ => l.length - (intOf i).toNat)
  case atStart => exact ⟨0, Nat.zero_le _, rfl, by simp [joinB], rfl⟩
  case round =>
    obtain ⟨k, hk, rfl, rfl, rfl⟩ := hrel
    by_cases hlt : k < l.length
    · obtain ⟨b, off, x0, rfl, hx, hc⟩ := Strs.elem H.out k (by omega)
      obtain ⟨x, hx', rfl⟩ := tx_get hx
      have h1 := join_take_le sep l k
      have h2 : x.length + sep.length ≤ _ := elem_le (fun x => x.length + sep.length) hx'
      have hsn := joinB_snoc sep (l.take k) x
      rw [← take_snoc hx'] at hsn
      clear hx
      generalize hcur : joinB sep (l.take k) = cur at *
      generalize hnxt : joinB sep (l.take (k + 1)) = nxt at *
      by_cases hk0 : k = 0
      · subst hk0
        (try rw [Nat.add_zero] at hc)
        have hc0 : cur = [] := by rw [← hcur]; simp [joinB]
        subst hc0
        have hfin : nxt = [] ++ x := by simpa using hsn
        have hns : ¬ (9223372036854775807 < x.length) := by omega
        have hap := baApp [] x
        have HSN := Lib.hid hsn; clear hsn; have HCUR := Lib.hid hcur; clear hcur; have HNXT := Lib.hid hnxt; clear hnxt; have HFIN := Lib.hid hfin; clear hfin; have H1 := Lib.hid h1; clear h1; have H2 := Lib.hid h2; clear h2; have HX' := Lib.hid hx'; clear hx'; have HAP := Lib.hid hap; clear hap
        go_wp2_with fail

        go_roundw
        case rel => exact ⟨0 + 1, by omega, by go_num, by rw [HNXT.out, HFIN.out, ← HAP.out], by first | rfl | trivial⟩
        case measure => simp [intOf]; omega
      · have hne : (l.take k).isEmpty = false := by
          cases l with
          | nil => simp at hlt
          | cons y r => cases k with
            | zero => exact absurd rfl hk0
            | succ k => simp
        have hfin : nxt = (cur ++ sep) ++ x := by rw [hsn, hne]; simp
        have hpos : 0 < k := by omega
        have hns1 : ¬ (9223372036854775807 < cur.length + sep.length) := by omega
        have hns2 : ¬ (9223372036854775807 < cur.length + sep.length + x.length) := by omega
        have hap1 := baApp cur sep
        have hap2 := baApp (cur ++ sep) x
        have HSN := Lib.hid hsn; clear hsn; have HCUR := Lib.hid hcur; clear hcur; have HNXT := Lib.hid hnxt; clear hnxt; have HFIN := Lib.hid hfin; clear hfin; have H1 := Lib.hid h1; clear h1; have H2 := Lib.hid h2; clear h2; have HX' := Lib.hid hx'; clear hx'; have HNE := Lib.hid hne; clear hne; have HAP1 := Lib.hid hap1; clear hap1; have HAP2 := Lib.hid hap2; clear hap2
        go_wp2_with fail
        go_roundw
        case rel => exact ⟨k + 1, by omega, by go_num, by rw [HNXT.out, HFIN.out, ← HAP2.out, ← HAP1.out], by first | rfl | trivial⟩
        case measure => simp [intOf]; omega
    · have hk2 : k = l.length := by omega
      subst hk2
      rw [List.take_length]
      go_wp2_with fail
      go_ret
      exact ⟨rfl, rfl⟩
end Go.Proofs.YtoflfamfhpijcaaDoor
