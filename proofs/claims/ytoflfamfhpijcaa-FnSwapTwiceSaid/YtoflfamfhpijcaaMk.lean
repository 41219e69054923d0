/-
  Marking numbers and texts, in ranges. No condition.
-/
import Derived.Test.YtoflfamfhpijcaaAt
import Derived.Test.YtoflfamfhpijcaaW6
set_option linter.unusedVariables false
namespace Go.Proofs.Ytoflfamfhpijcaa
open Go.RowKit
theorem eqIntS_same (a : Option Addr) (cap : Nat) (l : List Int) (a2 : Option Addr) (cap2 : Nat) (w : World) (h : (M.sl a cap 1 3 (intM l)).In w) (h2 : (M.sl a2 cap2 1 3 (intM l)).In w) :
    Calls Try.prog 91 #[.slice a l.length cap, .slice a2 l.length cap2] w (Ret (.bool true) w) := by
  have := eqIntS_calls a cap l a2 cap2 l w h h2
  rwa [(eqL_iff l l).2 rfl] at this
theorem markIntS_at (a : Option Addr) (cap : Nat) (l : List Int) (k : Int) (lo hi : Nat) (w : World) (h : (M.sl a cap 1 3 (intM l)).At lo hi w) (hk0 : 0 ≤ k) (hk : k + l.length ≤ 1000000000000) :
    Calls Try.prog 92 #[.slice a l.length cap, .int .i64 k] w (MarkedAt (.int .i64 (k + l.length)) (M.sl a cap 1 3 (intM (cnt k l.length))) lo hi w) :=
  (markIntS_calls a cap l k lo w h.mine hk0 hk).mono fun e w' hp => MarkedAt.of h hp.1 hp.2.1 hp.2.2 (fun b hb => by simp [M.blocks, hb]) (fun b hb => by
    simp only [M.blocks, intM_blocks, List.append_nil] at hb ⊢; exact hb)
end Go.Proofs.Ytoflfamfhpijcaa
