/-
  Walks: the reference's text of a number. No condition.
-/
import Derived.Test.YtoflfamfhpijcaaDoorF1
import Derived.Test.YtoflfamfhpijcaaDoorW1
import Derived.Laws.IdiomStrings
set_option linter.unusedVariables false
set_option linter.unusedSimpArgs false
set_option maxRecDepth 100000
namespace Go.Proofs.YtoflfamfhpijcaaDoor
open Go.RowKit

theorem oneByte (w : World) (c : Int) (b : UInt8) (hc : c = (b.toNat : Int)) : (convert 22 9 (.slice (some ⟨w.heap.size, 0, none⟩) 1 1)).run Tryd.prog (w.alloc (.cells #[.int .u8 c] 5)) = .ok (.string ⟨#[b]⟩) (w.alloc (.cells #[.int .u8 c] 5)) := by
  have h := run_convert_bytes_back (P := Tryd.prog) (w.alloc (.cells #[.int .u8 c] 5)) 22 9 5 ⟨w.heap.size, 0, none⟩ 1 [b] Tryd.underlying22 Tryd.underlying5 Tryd.underlying9 (fun j hj => by
    have : j = 0 := by simp at hj; omega
    subst this
    simp [Addr.add, go_sem, hc])
  exact h
theorem byteAdd (a : UInt8) (l : List UInt8) (b : ByteArray) (h : b.data.toList = l) : (⟨#[a]⟩ ++ b : ByteArray) = ⟨(a :: l).toArray⟩ := by
  apply ByteArray.ext
  rw [ByteArray.data_append]
  apply Array.ext'
  simp [h]
def dgt (u : Nat) : UInt8 := UInt8.ofNat (48 + u % 10)
theorem digit_toNat (u : Nat) : ((dgt u).toNat : Int) = ((48 + u % 10 : Nat) : Int) := by
  have : (48 + u % 10) % 256 = 48 + u % 10 := Nat.mod_eq_of_lt (by omega)
  unfold dgt; simp [UInt8.toNat_ofNat, this]
set_option maxHeartbeats 1000000 in
theorem sFormatNumber_calls (n : Int) (w : World) (hn : I64 n) :
    Calls Tryd.prog 22 #[.int .i64 n] w (Ret (.string ⟨(Lib.itoa n).toArray⟩) w) := by
  unfold I64 at hn
  by_cases h0 : n = 0
  · subst h0
    have hi := itoa_zero
    have HI := Lib.hid hi; clear hi
    go_enter Tryd.func22, Tryd.ntmps22
    go_wp2_with fail
    go_ret
    exact ⟨by rw [HI.out]; rfl, by (repeat (first | with_reducible assumption | with_reducible exact Below.refl _ _ | with_reducible refine Below.drew ?_ | with_reducible refine belowDrewN ?_ _ | ((with_reducible refine Below.setCell ?_ ?_ _); rotate_left; focus (first | omega | (simp; done) | (simp; omega))) | ((with_reducible refine Below.alloc ?_ ?_ _); rotate_left; focus (first | omega | (simp; done) | (simp; omega)))))⟩
  · go_enter Tryd.func22, Tryd.ntmps22
    have hb0 : (n == 0) = false := by simp [h0]
    go_wp2_with fail
    go_loopw [3, 4, 5] (fun o v d wr => ∃ (x : Int) (out : ByteArray), o = .string out ∧ v = .int .i64 x ∧ I64 x ∧ numRest x.natAbs ++ out.data.toList = numRest n.natAbs ∧ Below w.heap.size w wr) (fun _ v _ _ => (intOf v).natAbs)
    case atStart => exact ⟨n, ⟨#[]⟩, rfl, rfl, hn, by simp, by (repeat (first | with_reducible assumption | with_reducible exact Below.refl _ _ | with_reducible refine Below.drew ?_ | with_reducible refine belowDrewN ?_ _ | ((with_reducible refine Below.setCell ?_ ?_ _); rotate_left; focus (first | omega | (simp; done) | (simp; omega))) | ((with_reducible refine Below.alloc ?_ ?_ _); rotate_left; focus (first | omega | (simp; done) | (simp; omega)))))⟩
    case round =>
      obtain ⟨x, out, rfl, rfl, hx, hr, hb⟩ := hrel
      by_cases hx0 : x = 0
      · subst hx0
        have ho : out.data.toList = numRest n.natAbs := by simpa [numRest_zero] using hr
        have hl := Lib.itoa_length_le n hn.1 hn.2
        have hos : out.data.toList.length = out.size := rfl
        clear hr
        by_cases hneg : n < 0
        · have hi := itoa_neg' hneg
          rw [hi, ← ho] at hl
          simp only [List.length_cons] at hl
          have hns : ¬ (9223372036854775807 < 1 + out.size) := by omega
          have hadd := byteAdd 45 _ out ho
          have HO := Lib.hid ho; clear ho; have HI := Lib.hid hi; clear hi; have HL := Lib.hid hl; clear hl; have HADD := Lib.hid hadd; clear hadd
          go_wp2_with fail
          go_ret
          exact ⟨by rw [HI.out, ← HADD.out]; rfl, hb⟩
        · have hi := itoa_pos h0 hneg
          have HO := Lib.hid ho; clear ho; have HI := Lib.hid hi; clear hi; have HL := Lib.hid hl; clear hl
          go_wp2_with fail
          go_ret
          exact ⟨by rw [HI.out, ← HO.out]; rfl, hb⟩
      · have hxb : (x == 0) = false := by simp [hx0]
        have hm := Int.natAbs_tmod x 10
        have hd := Int.natAbs_tdiv x 10
        have hst : numRest x.natAbs = numRest (x.natAbs / 10) ++ [dgt x.natAbs] := numRest_step (u := x.natAbs) (by omega)
        have hz := hb.size
        have hdt := digit_toNat x.natAbs
        have hlo : out.size ≤ 25 := by
          have h1 := congrArg List.length hr
          have h2 := Lib.itoa_length_le n hn.1 hn.2
          have h3 : (numRest n.natAbs).length ≤ (Lib.itoa n).length := by
            by_cases hneg : n < 0
            · rw [itoa_neg' hneg]; simp
            · rw [itoa_pos h0 hneg]; exact Nat.le_refl _
          have hos : out.data.toList.length = out.size := rfl
          simp only [List.length_append] at h1
          omega
        have hns : ¬ (9223372036854775807 < 1 + out.size) := by omega
        have hadd := byteAdd (dgt x.natAbs) _ out rfl
        have hm2 : (x.tmod 10).natAbs = x.natAbs % 10 := hm
        have hd2 : (x.tdiv 10).natAbs = x.natAbs / 10 := hd
        have hfin : numRest (x.tdiv 10).natAbs ++ (⟨#[dgt x.natAbs]⟩ ++ out : ByteArray).data.toList = numRest n.natAbs := by
          rw [hd2, hadd, ← hr, hst]; simp
        have hltm : (x.tdiv 10).natAbs < x.natAbs := by omega
        have hI : I64 (x.tdiv 10) := by unfold I64 at hx ⊢; omega
        unfold I64 at hx
        by_cases hneg : x.tmod 10 < 0
        · have hcv := oneByte wr (wrap64 (48 + wrap64 (-x.tmod 10)) % 256) (dgt x.natAbs) (by rw [hdt]; unfold wrap64; omega)
          have HR := Lib.hid hr; clear hr; have HM := Lib.hid hm; clear hm; have HD := Lib.hid hd; clear hd; have HST := Lib.hid hst; clear hst; have HDT := Lib.hid hdt; clear hdt; have HM2 := Lib.hid hm2; clear hm2; have HD2 := Lib.hid hd2; clear hd2; have HADD := Lib.hid hadd; clear hadd; have HLO := Lib.hid hlo; clear hlo; have HFIN := Lib.hid hfin; clear hfin; have HI := Lib.hid hI; clear hI; have HLTM := Lib.hid hltm; clear hltm
          go_wp2_with fail
          go_roundw
          case rel => exact ⟨x.tdiv 10, _, rfl, by go_num, HI.out, HFIN.out, by (repeat (first | with_reducible assumption | with_reducible exact Below.refl _ _ | with_reducible refine Below.drew ?_ | with_reducible refine belowDrewN ?_ _ | ((with_reducible refine Below.setCell ?_ ?_ _); rotate_left; focus (first | omega | (simp; done) | (simp; omega))) | ((with_reducible refine Below.alloc ?_ ?_ _); rotate_left; focus (first | omega | (simp; done) | (simp; omega))) | ((with_reducible refine Below.trans ?_ (Below.mono hb ?_)); rotate_left; focus (first | omega | (simp; done) | (simp; omega)))))⟩
          case measure => exact HLTM.out
        · have hcv := oneByte wr (wrap64 (48 + x.tmod 10) % 256) (dgt x.natAbs) (by rw [hdt]; unfold wrap64; omega)
          have HR := Lib.hid hr; clear hr; have HM := Lib.hid hm; clear hm; have HD := Lib.hid hd; clear hd; have HST := Lib.hid hst; clear hst; have HDT := Lib.hid hdt; clear hdt; have HM2 := Lib.hid hm2; clear hm2; have HD2 := Lib.hid hd2; clear hd2; have HADD := Lib.hid hadd; clear hadd; have HLO := Lib.hid hlo; clear hlo; have HFIN := Lib.hid hfin; clear hfin; have HI := Lib.hid hI; clear hI; have HLTM := Lib.hid hltm; clear hltm
          go_wp2_with fail
          go_roundw
          case rel => exact ⟨x.tdiv 10, _, rfl, by go_num, HI.out, HFIN.out, by (repeat (first | with_reducible assumption | with_reducible exact Below.refl _ _ | with_reducible refine Below.drew ?_ | with_reducible refine belowDrewN ?_ _ | ((with_reducible refine Below.setCell ?_ ?_ _); rotate_left; focus (first | omega | (simp; done) | (simp; omega))) | ((with_reducible refine Below.alloc ?_ ?_ _); rotate_left; focus (first | omega | (simp; done) | (simp; omega))) | ((with_reducible refine Below.trans ?_ (Below.mono hb ?_)); rotate_left; focus (first | omega | (simp; done) | (simp; omega)))))⟩
          case measure => exact HLTM.out
end Go.Proofs.YtoflfamfhpijcaaDoor
