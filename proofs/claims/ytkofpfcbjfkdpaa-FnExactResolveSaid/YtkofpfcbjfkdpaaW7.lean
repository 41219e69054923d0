/-
  Walks: the names of forms and primitives. No condition.
-/
import Derived.Test.YtkofpfcbjfkdpaaW6
set_option linter.unusedVariables false
set_option linter.unusedSimpArgs false
set_option maxRecDepth 100000
namespace Go.Proofs.Ytkofpfcbjfkdpaa
open Go.RowKit

def RetStrs (l : List ByteArray) (w : World) (e : Ending) (w' : World) : Prop := ∃ a cap, e = .returned (.slice a l.length cap) ∧ (M.sl a cap 1 9 (strM l)).Mine w' w.heap.size ∧ Below w.heap.size w w'
theorem strM_mineL (w : World) (lo : Nat) (l : List ByteArray) : M.MineL w lo (strM l) :=
  ⟨by rw [OwnL_iff]; intro x hx; simp [strM] at hx; obtain ⟨n, _, rfl⟩ := hx; rfl, by rw [strM_blocks]; exact List.nodup_nil⟩
theorem strM_one (l : List ByteArray) : ∀ x ∈ strM l, x.cells.length = 1 := by intro x hx; simp [strM] at hx; obtain ⟨n, _, rfl⟩ := hx; rfl

def formNames : List ByteArray := [⟨#[113, 117, 111, 116, 101]⟩, ⟨#[108, 97, 109, 98, 100, 97]⟩, ⟨#[105, 102]⟩, ⟨#[115, 101, 116, 33]⟩, ⟨#[98, 101, 103, 105, 110]⟩, ⟨#[114, 101, 115, 101, 116]⟩, ⟨#[115, 104, 105, 102, 116]⟩, ⟨#[100, 101, 102, 105, 110, 101]⟩, ⟨#[100, 101, 102, 105, 110, 101, 45, 115, 121, 110, 116, 97, 120]⟩, ⟨#[108, 101, 116, 45, 115, 121, 110, 116, 97, 120]⟩, ⟨#[115, 121, 110, 116, 97, 120, 45, 114, 117, 108, 101, 115]⟩, ⟨#[108, 111, 99, 97, 108]⟩]
def primNames : List ByteArray := [⟨#[43]⟩, ⟨#[45]⟩, ⟨#[42]⟩, ⟨#[61]⟩, ⟨#[60]⟩, ⟨#[99, 111, 110, 115]⟩, ⟨#[99, 97, 114]⟩, ⟨#[99, 100, 114]⟩, ⟨#[110, 117, 108, 108, 63]⟩, ⟨#[112, 97, 105, 114, 63]⟩, ⟨#[110, 117, 109, 98, 101, 114, 63]⟩, ⟨#[101, 113, 63]⟩, ⟨#[110, 111, 116]⟩, ⟨#[100, 105, 115, 112, 108, 97, 121]⟩]

theorem sFormNames_calls (w : World) : Calls Try.prog 168 #[] w (RetStrs formNames w) := by
  go_enter Try.func168, Try.ntmps168
  go_wp2_with fail
  go_ret
  refine ⟨some ⟨w.heap.size, 0, none⟩, 12, rfl, ?_, (Below.refl _ _).alloc (Nat.le_refl _) _⟩
  exact M.Mine.new (xs := strM formNames) rfl (Nat.le_refl _) (by rw [strM_cells]; rfl) (by decide) (strM_one _) (by simp [maxLen]) (strM_mineL _ _ _)

theorem iFormNames_calls (w : World) : Calls Try.prog 172 #[] w (RetStrs formNames w) := by
  go_enter Try.func172, Try.ntmps172
  go_wp2_with fail
  go_ret
  refine ⟨some ⟨w.heap.size, 0, none⟩, 12, rfl, ?_, (Below.refl _ _).alloc (Nat.le_refl _) _⟩
  exact M.Mine.new (xs := strM formNames) rfl (Nat.le_refl _) (by rw [strM_cells]; rfl) (by decide) (strM_one _) (by simp [maxLen]) (strM_mineL _ _ _)

theorem sPrimitiveNames_calls (w : World) : Calls Try.prog 169 #[] w (RetStrs primNames w) := by
  go_enter Try.func169, Try.ntmps169
  go_wp2_with fail
  go_ret
  refine ⟨some ⟨w.heap.size, 0, none⟩, 14, rfl, ?_, (Below.refl _ _).alloc (Nat.le_refl _) _⟩
  exact M.Mine.new (xs := strM primNames) rfl (Nat.le_refl _) (by rw [strM_cells]; rfl) (by decide) (strM_one _) (by simp [maxLen]) (strM_mineL _ _ _)

theorem iPrimitiveNames_calls (w : World) : Calls Try.prog 173 #[] w (RetStrs primNames w) := by
  go_enter Try.func173, Try.ntmps173
  go_wp2_with fail
  go_ret
  refine ⟨some ⟨w.heap.size, 0, none⟩, 14, rfl, ?_, (Below.refl _ _).alloc (Nat.le_refl _) _⟩
  exact M.Mine.new (xs := strM primNames) rfl (Nat.le_refl _) (by rw [strM_cells]; rfl) (by decide) (strM_one _) (by simp [maxLen]) (strM_mineL _ _ _)

end Go.Proofs.Ytkofpfcbjfkdpaa
