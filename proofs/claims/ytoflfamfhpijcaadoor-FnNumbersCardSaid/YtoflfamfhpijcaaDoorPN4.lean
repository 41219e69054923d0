/-
  Walks: numbers and texts drawn. No condition.
-/
import Derived.Test.YtoflfamfhpijcaaDoorQ6
set_option linter.unusedVariables false
set_option linter.unusedSimpArgs false
set_option maxRecDepth 100000
namespace Go.Proofs.YtoflfamfhpijcaaDoor
open Go.RowKit

def RetI (w : World) (e : Ending) (w' : World) : Prop := ∃ x : Int, e = .returned (.int .i64 x) ∧ I64 x ∧ Below w.heap.size w w'
def RetS (w : World) (e : Ending) (w' : World) : Prop := ∃ x : ByteArray, e = .returned (.string x) ∧ x.size ≤ 100 ∧ Below w.heap.size w w'
theorem drawFormatNumber_calls (a : Option Addr) (cap : Nat) (l : List Int) (w : World) (hin : (M.sl a cap 1 5 (u8M l)).In w) (hu : ∀ z ∈ l, 0 ≤ z ∧ z ≤ 255) (hlen : l.length ≤ 1048576) :
    Calls Tryd.prog 76 #[.slice a l.length cap] w (RetI w) := by
  have HIN := Lib.hid hin; clear hin; have HU := Lib.hid hu; clear hu
  go_enter Tryd.func76, Tryd.ntmps76
  go_wp2_with fail
  refine (l01New_calls a cap l _ HIN.out HU.out hlen).mono ?_
  rintro e w1 ⟨pb, rfl, hpb, hc1, hb1⟩
  have hz1 := hb1.size
  have hp1 := hc1.lt
  have HC1 := Lib.hid hc1; clear hc1; have HB1 := Lib.hid hb1; clear hb1
  go_wp2_with fail
  refine (l01Int_lit _ _ pb a cap l _ HC1.out ?size (by decide) (by decide) ?nums).mono ?_
  case size => rfl
  case nums => exact Nums.of (by rfl)
  rintro e w2 ⟨x, rfl, hx, hc2, ho2⟩
  have HX := Lib.hid hx; clear hx; have HC2 := Lib.hid hc2; clear hc2; have HO2 := Lib.hid ho2; clear ho2
  go_wp2_with fail
  go_ret
  exact ⟨x, rfl, HX.out, HB1.out.trans (HO2.out.below (by omega) (by omega))⟩
theorem drawNumberDatum_calls (a : Option Addr) (cap : Nat) (l : List Int) (w : World) (hin : (M.sl a cap 1 5 (u8M l)).In w) (hu : ∀ z ∈ l, 0 ≤ z ∧ z ≤ 255) (hlen : l.length ≤ 1048576) :
    Calls Tryd.prog 39 #[.slice a l.length cap] w (RetI w) := by
  have HIN := Lib.hid hin; clear hin; have HU := Lib.hid hu; clear hu
  go_enter Tryd.func39, Tryd.ntmps39
  go_wp2_with fail
  refine (drawFormatNumber_calls a cap l _ HIN.out HU.out hlen).mono ?_
  rintro e w1 ⟨x, rfl, hx, hb1⟩
  have HX := Lib.hid hx; clear hx; have HB1 := Lib.hid hb1; clear hb1
  go_wp2_with fail
  go_ret
  exact ⟨x, rfl, HX.out, HB1.out⟩
theorem drawParseNumber_calls (a : Option Addr) (cap : Nat) (l : List Int) (w : World) (hin : (M.sl a cap 1 5 (u8M l)).In w) (hu : ∀ z ∈ l, 0 ≤ z ∧ z ≤ 255) (hlen : l.length ≤ 1048576) :
    Calls Tryd.prog 40 #[.slice a l.length cap] w (RetS w) := by
  have HIN := Lib.hid hin; clear hin; have HU := Lib.hid hu; clear hu
  go_enter Tryd.func40, Tryd.ntmps40
  go_wp2_with fail
  refine (l01New_calls a cap l _ HIN.out HU.out hlen).mono ?_
  rintro e w1 ⟨pb, rfl, hpb, hc1, hb1⟩
  have hz1 := hb1.size
  have hp1 := hc1.lt
  have HC1 := Lib.hid hc1; clear hc1; have HB1 := Lib.hid hb1; clear hb1
  go_wp2_with fail
  refine (l01Pick_lit _ _ pb a cap l _ HC1.out ?size (by decide) (by decide) ?texts).mono ?_
  case size => rfl
  case texts => exact Texts.of (by rfl)
  rintro e w2 ⟨x, rfl, hx, hc2, ho2⟩
  have HX := Lib.hid hx; clear hx; have HC2 := Lib.hid hc2; clear hc2; have HO2 := Lib.hid ho2; clear ho2
  go_wp2_with fail
  go_ret
  exact ⟨x, rfl, HX.out, HB1.out.trans (HO2.out.below (by omega) (by omega))⟩
theorem drawIsSymbol_calls (a : Option Addr) (cap : Nat) (l : List Int) (w : World) (hin : (M.sl a cap 1 5 (u8M l)).In w) (hu : ∀ z ∈ l, 0 ≤ z ∧ z ≤ 255) (hlen : l.length ≤ 1048576) :
    Calls Tryd.prog 41 #[.slice a l.length cap] w (RetS w) := by
  have HIN := Lib.hid hin; clear hin; have HU := Lib.hid hu; clear hu
  go_enter Tryd.func41, Tryd.ntmps41
  go_wp2_with fail
  refine (l01New_calls a cap l _ HIN.out HU.out hlen).mono ?_
  rintro e w1 ⟨pb, rfl, hpb, hc1, hb1⟩
  have hz1 := hb1.size
  have hp1 := hc1.lt
  have HC1 := Lib.hid hc1; clear hc1; have HB1 := Lib.hid hb1; clear hb1
  go_wp2_with fail
  refine (l01Pick_lit _ _ pb a cap l _ HC1.out ?size (by decide) (by decide) ?texts).mono ?_
  case size => rfl
  case texts => exact Texts.of (by rfl)
  rintro e w2 ⟨x, rfl, hx, hc2, ho2⟩
  have HX := Lib.hid hx; clear hx; have HC2 := Lib.hid hc2; clear hc2; have HO2 := Lib.hid ho2; clear ho2
  go_wp2_with fail
  go_ret
  exact ⟨x, rfl, HX.out, HB1.out.trans (HO2.out.below (by omega) (by omega))⟩
end Go.Proofs.YtoflfamfhpijcaaDoor
