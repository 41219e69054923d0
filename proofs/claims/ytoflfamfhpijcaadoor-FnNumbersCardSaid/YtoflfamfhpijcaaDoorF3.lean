/-
  The program's text of a number: strconv's contract. Condition: the library's table of powers of ten reads as laid.
-/
import Derived.Test.YtoflfamfhpijcaaDoorF1
import Derived.Test.YtoflfamfhpijcaaDoorW1
import Derived.Test.YtoflfamfhpijcaaDoorShelf
import Derived.Lib.AppendIntMem
set_option linter.unusedVariables false
set_option linter.unusedSimpArgs false
set_option maxRecDepth 100000
namespace Go.Proofs.YtoflfamfhpijcaaDoor
open Go.RowKit

/-- the table of powers of ten, in every world that keeps what lies below B -/
def Tab (B : Nat) (w : World) : Prop := Lib.TabBelow Tryd.prog B w "internal/strconv.uint64pow10" .u64 Lib.pow10Tab
theorem Tab.on {B : Nat} {w w' : World} (h : Tab B w) (hb : Below B w w') : Tab B w' := fun w2 h2 => h w2 (hb.trans h2)
theorem Tab.mono {B C : Nat} {w : World} (h : Tab B w) (hc : B ≤ C) : Tab C w := fun w2 h2 => h w2 (h2.mono hc)
theorem Tab.of {w : World} (h : Lib.TabIs Tryd.prog w "internal/strconv.uint64pow10" .u64 Lib.pow10Tab) : Tab w.heap.size w := Lib.tabBelow_of_tabIs h
theorem iFormatNumber_calls (n : Int) (w : World) (hn : I64 n) (B : Nat) (ht : Tab B w) (hB : B ≤ w.heap.size) :
    Calls Tryd.prog 23 #[.int .i64 n] w (Ret (.string ⟨(Lib.itoa n).toArray⟩) w) := by
  go_enter Tryd.func23, Tryd.ntmps23
  go_wp2_with (go_at_call 64; refine (Tryd.strconv_Itoa n hn.1 hn.2 _ (ht _ (by (repeat (first | with_reducible assumption | with_reducible exact Below.refl _ _ | with_reducible refine Below.drew ?_ | with_reducible refine belowDrewN ?_ _ | ((with_reducible refine Below.setCell ?_ ?_ _); rotate_left; focus (first | omega | (simp; done) | (simp; omega))) | ((with_reducible refine Below.alloc ?_ ?_ _); rotate_left; focus (first | omega | (simp; done) | (simp; omega)))))))).mono ?_; rintro e w1 ⟨rfl, k, os, rfl⟩)
  go_ret
  exact ⟨rfl, Lib.below_grow _ _ (Nat.le_refl _) k os⟩
end Go.Proofs.YtoflfamfhpijcaaDoor
