/-
  Walks: marked data are held; marking and holding of a datum. No condition.
-/
import Derived.Test.YtoflfamfhpijcaaDoorDM1
import Derived.Test.YtoflfamfhpijcaaDoorMk
set_option linter.unusedVariables false
set_option linter.unusedSimpArgs false
set_option maxRecDepth 100000
namespace Go.Proofs.YtoflfamfhpijcaaDoor
open Go.RowKit

theorem Dat.markL_get {ds : List Dat} {j : Nat} {d : Dat} (h : ds[j]? = some d) (k : Int) : (Dat.markL k ds)[j]? = some (d.mark (k + 3 * (Dat.countL (ds.take j) : Int))) := by
  obtain ⟨hj, rfl⟩ := List.getElem?_eq_some_iff.1 h
  conv => lhs; rw [← List.take_append_drop j ds, List.drop_eq_getElem_cons hj, Dat.markL_append]
  have hl : (Dat.markL k (ds.take j)).length = j := by rw [Dat.markL_length]; simp; omega
  rw [List.getElem?_append_right (by omega), hl, Nat.sub_self]; rfl

def HdDs (ds : List Dat) : Prop := ∀ (a : Option Addr) (cap : Nat) (ms : List M) (k : Int) (w : World), Dat.IsL 31 (Dat.markL k ds) ms → (M.sl a cap 4 31 ms).In w → 0 ≤ k → k + 3 * (Dat.countL ds : Int) ≤ 1000000000000 →
    Calls Tryd.prog 21 #[.slice a ms.length cap, .int .i64 k] w (Ret (.int .i64 (k + 3 * (Dat.countL ds : Int))) w)

theorem heldDatumS_calls : ∀ ds, HdDs ds := by
  refine Dat.inductL fun ds ih => ?_
  intro a cap ms k w hi hin hk0 hkb
  have hln := hi.length
  rw [Dat.markL_length] at hln
  have hcapm := hin.len
  have IH := Lib.hid ih; clear ih; have HI := Lib.hid hi; clear hi; have HIN := Lib.hid hin; clear hin; have HKB := Lib.hid hkb; clear hkb; have HLN := Lib.hid hln; clear hln
  go_enter Tryd.func21, Tryd.ntmps21
  go_wp2_with fail
  go_loopw [1, 5] (fun t i wr => ∃ (j : Nat), j ≤ ms.length ∧ i = .int .i64 j ∧ t = .int .i64 (k + 3 * (Dat.countL (ds.take j) : Int)) ∧ Below w.heap.size w wr ∧ w.heap.size ≤ wr.heap.size) (fun _ i _ => ms.length - (intOf i).toNat)
  case atStart => exact ⟨0, Nat.zero_le _, rfl, by simp [Dat.countL], Below.refl _ _, Nat.le_refl _⟩
  case round =>
    obtain ⟨j, hj, rfl, rfl, hb, hsz⟩ := hrel
    by_cases hlt : j < ms.length
    · have hjd : j < ds.length := by have := HLN.out; omega
      have hdj : ds[j]? = some ds[j] := List.getElem?_eq_getElem hjd
      have hmem : ds[j] ∈ ds := List.getElem_mem hjd
      have hget := Dat.markL_get hdj k
      have hcl := (Dat.countL_le ds j _ hdj)
      generalize hd1 : ds[j] = d1 at *
      obtain ⟨k0, n0, s0, ds0⟩ := d1
      have hkk := HKB.out
      obtain ⟨hc1', hc2'⟩ := hcl
      simp only [Dat.count] at hc1' hc2'
      generalize hKe : k + 3 * (Dat.countL (ds.take j) : Int) = K at *
      have hK0 : 0 ≤ K := by omega
      have hK9 : K + 3 + 3 * (Dat.countL ds0 : Int) ≤ 1000000000000 := by omega
      obtain ⟨b, off, k1, n1, s1, ds1, a1, cap1, ms1, rfl, hd, hi1, hin1, c0, c1, c2, c3⟩ := Dat.elem (HIN.out.below hb) HI.out j hlt
      rw [hget] at hd
      simp only [Dat.mark, Option.some.injEq, Dat.mk.injEq] at hd
      obtain ⟨rfl, rfl, rfl, rfl⟩ := hd
      have hbl := World.block_lt_of_cell? wr _ c0
      have hcount : k + 3 * (Dat.countL (ds.take (j + 1)) : Int) = K + 1 + 1 + 1 + 3 * (Dat.countL ds0 : Int) := by
        rw [hc1']; push_cast; omega
      clear hc1' hget hd1 hkk
      have e2 : K + 1 + 1 = K + 2 := by omega
      rw [show K + 3 = K + 1 + 1 + 1 by omega] at hi1
      rw [← e2] at c2
      clear e2
      have HDJ := Lib.hid hdj; clear hdj; have HMEM := Lib.hid hmem; clear hmem; have HI1 := Lib.hid hi1; clear hi1; have HIN1 := Lib.hid hin1; clear hin1; have HKE := Lib.hid hKe; clear hKe; have HCOUNT := Lib.hid hcount; clear hcount
      have hK1 : K ≤ 1000000000000 := by omega
      have hK2 : K + 1 ≤ 1000000000000 := by omega
      have hK3 : K + 1 + 1 ≤ 1000000000000 := by omega
      go_wp2_with fail
      go_region_held3 (fun w' => w'.cell? ⟨b, off + j * 4 + 2, none⟩ = some (.string (mtx (K + 1 + 1))) ∧ w'.cell? ⟨b, off + j * 4 + 3, none⟩ = some (.slice a1 ms1.length cap1))
        (first | exact ⟨c2, c3⟩ | exact ⟨(hc1 _ _ hbl).trans c2, (hc1 _ _ hbl).trans c3⟩)
        (first | (go_at_call 63; refine (markText_calls _ _ (by omega)).mono ?_; rintro e w1 ⟨rfl, hb1⟩; obtain ⟨hc1, hf1⟩ := bcell hb1; have hz1 := hb1.size; (try simp only [World.size_alloc, World.size_setCell, World.size_drew, sizeDrewN] at hz1 hc1 hf1)))
      have c3' : w1.cell? ⟨b, off + j * 4 + 3, none⟩ = some (.slice a1 ms1.length cap1) := (hc1 _ _ hbl).trans c3
      go_wp2_with fail
      refine (IH.out k0 n0 s0 ds0 HMEM.out a1 cap1 ms1 (K + 1 + 1 + 1) _ HI1.out (HIN1.out.below (by (repeat (first | with_reducible assumption | with_reducible exact Below.refl _ _ | with_reducible refine Below.drew ?_ | with_reducible refine belowDrewN ?_ _ | ((with_reducible refine Below.setCell ?_ ?_ _); rotate_left; focus (first | omega | (simp; done) | (simp; omega))) | ((with_reducible refine Below.alloc ?_ ?_ _); rotate_left; focus (first | omega | (simp; done) | (simp; omega))) | ((with_reducible refine Below.trans ?_ (Below.mono hb1 ?_)); rotate_left; focus (first | omega | (simp; done) | (simp; omega))))))) (by omega) (by omega)).mono ?_
      rintro e w2 ⟨rfl, hb2⟩
      obtain ⟨hc2, hf2⟩ := bcell hb2; have hz2 := hb2.size; (try simp only [World.size_alloc, World.size_setCell, World.size_drew, sizeDrewN] at hz2 hc2 hf2)
      have hpos : ¬ (K + 1 + 1 + 1 + 3 * (Dat.countL ds0 : Int) < 0) := by omega
      go_wp2_with fail
      go_roundw
      case rel => exact ⟨j + 1, by omega, by go_num, by rw [HCOUNT.out], by (repeat (first | with_reducible assumption | with_reducible exact Below.refl _ _ | with_reducible refine Below.drew ?_ | with_reducible refine belowDrewN ?_ _ | ((with_reducible refine Below.setCell ?_ ?_ _); rotate_left; focus (first | omega | (simp; done) | (simp; omega))) | ((with_reducible refine Below.alloc ?_ ?_ _); rotate_left; focus (first | omega | (simp; done) | (simp; omega))) | ((with_reducible refine Below.trans ?_ (Below.mono hb1 ?_)); rotate_left; focus (first | omega | (simp; done) | (simp; omega))) | ((with_reducible refine Below.trans ?_ (Below.mono hb2 ?_)); rotate_left; focus (first | omega | (simp; done) | (simp; omega))))), by omega⟩
      case measure => simp [intOf]; omega
    · go_wp2_with fail
      go_ret
      obtain rfl : j = ms.length := by omega
      have hl := HLN.out
      exact ⟨ret_i (by rw [hl, List.take_length]), hb⟩
theorem heldDatumS_of (ds : List Dat) (a : Option Addr) (cap : Nat) (ms : List M) (n : Nat) (k : Int) (w : World) (hn : ms.length = n) (hi : Dat.IsL 31 (Dat.markL k ds) ms) (hin : (M.sl a cap 4 31 ms).In w) (hk0 : 0 ≤ k) (hkb : k + 3 * (Dat.countL ds : Int) ≤ 1000000000000) :
    Calls Tryd.prog 21 #[.slice a n cap, .int .i64 k] w (Ret (.int .i64 (k + 3 * (Dat.countL ds : Int))) w) := by
  subst hn; exact heldDatumS_calls ds a cap ms k w hi hin hk0 hkb
def MarkedAtDs (k : Int) (a : Option Addr) (cap : Nat) (ms : List M) (ds : List Dat) (lo hi : Nat) (w : World) (e : Ending) (w' : World) : Prop :=
  ∃ ms', e = .returned (.int .i64 (k + 3 * (Dat.countL ds : Int))) ∧ ms'.length = ms.length ∧ Dat.IsL 31 (Dat.markL k ds) ms' ∧ (M.sl a cap 4 31 ms').At lo hi w' ∧ OnlyIn lo hi w w'
theorem markDatumS_at (ds : List Dat) (a : Option Addr) (cap : Nat) (ms : List M) (k : Int) (lo hi : Nat) (w : World) (hi' : Dat.IsL 31 ds ms) (h : (M.sl a cap 4 31 ms).At lo hi w) (hk0 : 0 ≤ k) (hkb : k + 3 * (Dat.countL ds : Int) ≤ 1000000000000) :
    Calls Tryd.prog 20 #[.slice a ms.length cap, .int .i64 k] w (MarkedAtDs k a cap ms ds lo hi w) :=
  (markDatumS_calls ds a cap ms k lo w hi' h.mine hk0 hkb).mono fun e w' ⟨he, ms', h1, h2, h3, h4, h5⟩ => by
    have hb : (M.sl a cap 4 31 ms').blocks = (M.sl a cap 4 31 ms).blocks := by simp [M.blocks, h4]
    obtain ⟨_, hA, hO⟩ := MarkedAt.of (v := .int .i64 (k + 3 * (Dat.countL ds : Int))) h he h3 h5 (fun b hb => hb) (fun b hb' => hb ▸ hb')
    exact ⟨ms', he, h1, h2, hA, hO⟩
end Go.Proofs.YtoflfamfhpijcaaDoor
