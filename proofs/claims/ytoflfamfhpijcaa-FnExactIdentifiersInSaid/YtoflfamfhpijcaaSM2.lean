/-
  Walks: marked syntax is held; marking and holding of a piece of syntax. No condition.
-/
import Derived.Test.YtoflfamfhpijcaaSM1
import Derived.Test.YtoflfamfhpijcaaMk
set_option linter.unusedVariables false
set_option linter.unusedSimpArgs false
set_option maxRecDepth 100000
namespace Go.Proofs.Ytoflfamfhpijcaa
open Go.RowKit

def HdSs (ds : List Syn) : Prop := ∀ (a : Option Addr) (cap : Nat) (ms : List M) (k : Int) (w : World), Syn.IsL 43 (Syn.markL k ds) ms → (M.sl a cap 5 43 ms).In w → 0 ≤ k → k + (Syn.placesL ds : Int) ≤ 1000000000000 →
    Calls Try.prog 40 #[.slice a ms.length cap, .int .i64 k] w (Ret (.int .i64 (k + (Syn.placesL ds : Int))) w)

set_option maxHeartbeats 1000000 in
theorem heldSyntaxS_calls : ∀ ds, HdSs ds := by
  refine Syn.inductL fun ds ih => ?_
  intro a cap ms k w hi hin hk0 hkb
  have hln := hi.length
  rw [Syn.markL_length] at hln
  have hcapm := hin.len
  have IH := Lib.hid ih; clear ih; have HI := Lib.hid hi; clear hi; have HIN := Lib.hid hin; clear hin; have HKB := Lib.hid hkb; clear hkb; have HLN := Lib.hid hln; clear hln
  go_enter Try.func40, Try.ntmps40
  go_wp2_with fail
  go_loopw [1, 5] (fun t i wr => ∃ (j : Nat), j ≤ ms.length ∧ i = .int .i64 j ∧ t = .int .i64 (k + (Syn.placesL (ds.take j) : Int)) ∧ Below w.heap.size w wr ∧ w.heap.size ≤ wr.heap.size) (fun _ i _ => ms.length - (intOf i).toNat)
  case atStart => exact ⟨0, Nat.zero_le _, rfl, by simp [Syn.placesL], Below.refl _ _, Nat.le_refl _⟩
  case round =>
    obtain ⟨j, hj, rfl, rfl, hb, hsz⟩ := hrel
    by_cases hlt : j < ms.length
    · have hjd : j < ds.length := by have := HLN.out; omega
      have hdj : ds[j]? = some ds[j] := List.getElem?_eq_getElem hjd
      have hmem : ds[j] ∈ ds := List.getElem_mem hjd
      have hget := Syn.markL_get hdj k
      have hcl := (Syn.placesL_le ds j _ hdj)
      generalize hd1 : ds[j] = d1 at *
      obtain ⟨k0, n0, s0, x0, ds0⟩ := d1
      have hkk := HKB.out
      obtain ⟨hc1', hc2'⟩ := hcl
      simp only [Syn.places] at hc1' hc2'
      generalize hKe : k + (Syn.placesL (ds.take j) : Int) = K at *
      have hK0 : 0 ≤ K := by omega
      have hK9 : K + 3 + (x0.length : Int) + (Syn.placesL ds0 : Int) ≤ 1000000000000 := by omega
      obtain ⟨b, off, k1, n1, s1, x1, ds1, xa1, xc1, a1, cap1, ms1, rfl, hd, hi1, hx1, hin1, c0, c1, c2, c3, c4⟩ := Syn.elem (HIN.out.below hb) HI.out j hlt
      rw [hget] at hd
      simp only [Syn.mark, Option.some.injEq, Syn.mk.injEq] at hd
      obtain ⟨rfl, rfl, rfl, rfl, rfl⟩ := hd
      rw [cnt_length] at c3
      have hbl := World.block_lt_of_cell? wr _ c0
      have hcount : k + (Syn.placesL (ds.take (j + 1)) : Int) = K + 1 + 1 + 1 + (x0.length : Int) + (Syn.placesL ds0 : Int) := by
        rw [hc1']; push_cast; omega
      clear hc1' hc2' hget hd1 hkk
      have e2 : K + 1 + 1 = K + 2 := by omega
      rw [show K + 3 + (x0.length : Int) = K + 1 + 1 + 1 + (x0.length : Int) by omega] at hi1
      rw [show K + 3 = K + 1 + 1 + 1 by omega] at hx1
      rw [← e2] at c2
      clear e2
      have HDJ := Lib.hid hdj; clear hdj; have HMEM := Lib.hid hmem; clear hmem; have HI1 := Lib.hid hi1; clear hi1; have HIN1 := Lib.hid hin1; clear hin1; have HX1 := Lib.hid hx1; clear hx1; have HKE := Lib.hid hKe; clear hKe; have HCOUNT := Lib.hid hcount; clear hcount
      have hK1 : K ≤ 1000000000000 := by omega
      have hK2 : K + 1 ≤ 1000000000000 := by omega
      have hK3 : K + 1 + 1 ≤ 1000000000000 := by omega
      go_wp2_with fail
      go_region_held3 (fun w' => w'.cell? ⟨b, off + j * 5 + 2, none⟩ = some (.string (mtx (K + 1 + 1))) ∧ w'.cell? ⟨b, off + j * 5 + 3, none⟩ = some (.slice xa1 x0.length xc1) ∧ w'.cell? ⟨b, off + j * 5 + 4, none⟩ = some (.slice a1 ms1.length cap1))
        (first | exact ⟨c2, c3, c4⟩ | exact ⟨(hc1 _ _ hbl).trans c2, (hc1 _ _ hbl).trans c3, (hc1 _ _ hbl).trans c4⟩)
        (first | (go_at_call 93; refine (markText_calls _ _ (by omega)).mono ?_; rintro e w1 ⟨rfl, hb1⟩; obtain ⟨hc1, hf1⟩ := bcell hb1; have hz1 := hb1.size; (try simp only [World.size_alloc, World.size_setCell, World.size_drew, sizeDrewN] at hz1 hc1 hf1)))
      have c3' : w1.cell? ⟨b, off + j * 5 + 3, none⟩ = some (.slice xa1 x0.length xc1) := (hc1 _ _ hbl).trans c3
      have c4' : w1.cell? ⟨b, off + j * 5 + 4, none⟩ = some (.slice a1 ms1.length cap1) := (hc1 _ _ hbl).trans c4
      go_wp2_with fail
      refine (heldIntS_calls xa1 xc1 x0.length (K + 1 + 1 + 1) _ (HX1.out.below (by (repeat (first | with_reducible assumption | with_reducible exact Below.refl _ _ | with_reducible refine Below.drew ?_ | with_reducible refine belowDrewN ?_ _ | ((with_reducible refine Below.setCell ?_ ?_ _); rotate_left; focus (first | omega | (simp; done) | (simp; omega))) | ((with_reducible refine Below.alloc ?_ ?_ _); rotate_left; focus (first | omega | (simp; done) | (simp; omega))) | ((with_reducible refine Below.trans ?_ (Below.mono hb1 ?_)); rotate_left; focus (first | omega | (simp; done) | (simp; omega))))))) (by omega) (by omega)).mono ?_
      rintro e w2 ⟨rfl, hb2⟩
      obtain ⟨hc2, hf2⟩ := bcell hb2; have hz2 := hb2.size; (try simp only [World.size_alloc, World.size_setCell, World.size_drew, sizeDrewN] at hz2 hc2 hf2)
      have c4'' : w2.cell? ⟨b, off + j * 5 + 4, none⟩ = some (.slice a1 ms1.length cap1) := (hc2 _ _ (by omega)).trans c4'
      have hpos0 : ¬ (K + 1 + 1 + 1 + (x0.length : Int) < 0) := by omega
      go_wp2_with fail
      refine (IH.out k0 n0 s0 x0 ds0 HMEM.out a1 cap1 ms1 (K + 1 + 1 + 1 + (x0.length : Int)) _ HI1.out (HIN1.out.below (by (repeat (first | with_reducible assumption | with_reducible exact Below.refl _ _ | with_reducible refine Below.drew ?_ | with_reducible refine belowDrewN ?_ _ | ((with_reducible refine Below.setCell ?_ ?_ _); rotate_left; focus (first | omega | (simp; done) | (simp; omega))) | ((with_reducible refine Below.alloc ?_ ?_ _); rotate_left; focus (first | omega | (simp; done) | (simp; omega))) | ((with_reducible refine Below.trans ?_ (Below.mono hb1 ?_)); rotate_left; focus (first | omega | (simp; done) | (simp; omega))) | ((with_reducible refine Below.trans ?_ (Below.mono hb2 ?_)); rotate_left; focus (first | omega | (simp; done) | (simp; omega))))))) (by omega) (by omega)).mono ?_
      rintro e w3 ⟨rfl, hb3⟩
      obtain ⟨hc3, hf3⟩ := bcell hb3; have hz3 := hb3.size; (try simp only [World.size_alloc, World.size_setCell, World.size_drew, sizeDrewN] at hz3 hc3 hf3)
      have hpos : ¬ (K + 1 + 1 + 1 + (x0.length : Int) + (Syn.placesL ds0 : Int) < 0) := by omega
      go_wp2_with fail
      go_roundw
      case rel => exact ⟨j + 1, by omega, by go_num, by rw [HCOUNT.out], by (repeat (first | with_reducible assumption | with_reducible exact Below.refl _ _ | with_reducible refine Below.drew ?_ | with_reducible refine belowDrewN ?_ _ | ((with_reducible refine Below.setCell ?_ ?_ _); rotate_left; focus (first | omega | (simp; done) | (simp; omega))) | ((with_reducible refine Below.alloc ?_ ?_ _); rotate_left; focus (first | omega | (simp; done) | (simp; omega))) | ((with_reducible refine Below.trans ?_ (Below.mono hb1 ?_)); rotate_left; focus (first | omega | (simp; done) | (simp; omega))) | ((with_reducible refine Below.trans ?_ (Below.mono hb2 ?_)); rotate_left; focus (first | omega | (simp; done) | (simp; omega))) | ((with_reducible refine Below.trans ?_ (Below.mono hb3 ?_)); rotate_left; focus (first | omega | (simp; done) | (simp; omega))))), by omega⟩
      case measure => simp [intOf]; omega
    · go_wp2_with fail
      go_ret
      obtain rfl : j = ms.length := by omega
      have hl := HLN.out
      exact ⟨ret_i (by rw [hl, List.take_length]), hb⟩
theorem heldSyntaxS_of (ds : List Syn) (a : Option Addr) (cap : Nat) (ms : List M) (n : Nat) (k : Int) (w : World) (hn : ms.length = n) (hi : Syn.IsL 43 (Syn.markL k ds) ms) (hin : (M.sl a cap 5 43 ms).In w) (hk0 : 0 ≤ k) (hkb : k + (Syn.placesL ds : Int) ≤ 1000000000000) :
    Calls Try.prog 40 #[.slice a n cap, .int .i64 k] w (Ret (.int .i64 (k + (Syn.placesL ds : Int))) w) := by
  subst hn; exact heldSyntaxS_calls ds a cap ms k w hi hin hk0 hkb
def MarkedAtSs (k : Int) (a : Option Addr) (cap : Nat) (ms : List M) (ds : List Syn) (lo hi : Nat) (w : World) (e : Ending) (w' : World) : Prop :=
  ∃ ms', e = .returned (.int .i64 (k + (Syn.placesL ds : Int))) ∧ ms'.length = ms.length ∧ Syn.IsL 43 (Syn.markL k ds) ms' ∧ (M.sl a cap 5 43 ms').At lo hi w' ∧ OnlyIn lo hi w w'
theorem markSyntaxS_at (ds : List Syn) (a : Option Addr) (cap : Nat) (ms : List M) (k : Int) (lo hi : Nat) (w : World) (hi' : Syn.IsL 43 ds ms) (h : (M.sl a cap 5 43 ms).At lo hi w) (hk0 : 0 ≤ k) (hkb : k + (Syn.placesL ds : Int) ≤ 1000000000000) :
    Calls Try.prog 39 #[.slice a ms.length cap, .int .i64 k] w (MarkedAtSs k a cap ms ds lo hi w) :=
  (markSyntaxS_calls ds a cap ms k lo w hi' h.mine hk0 hkb).mono fun e w' ⟨he, ms', h1, h2, h3, h4, h5⟩ => by
    have hb : (M.sl a cap 5 43 ms').blocks = (M.sl a cap 5 43 ms).blocks := by simp [M.blocks, h4]
    obtain ⟨_, hA, hO⟩ := MarkedAt.of (v := .int .i64 (k + (Syn.placesL ds : Int))) h he h3 h5 (fun b hb => hb) (fun b hb' => hb ▸ hb')
    exact ⟨ms', he, h1, h2, hA, hO⟩
theorem SynOwn_dis {e : TypeId} {xa : Option Addr} {xc : Nat} {x : List Int} {a : Option Addr} {cap : Nat} {ms : List M} {w : World} {lo : Nat} (h : (SynOwn e xa xc x a cap ms).Mine w lo) : ∀ b ∈ (M.sl a cap 5 e ms).blocks, b ∉ addrBlocks xa := by
  intro b hb hn
  have := h.dup
  simp only [SynOwn, M.blocks, M.blocksL, List.append_nil, intM_blocks] at this
  exact (List.nodup_append.1 this).2.2 b hn b (by simpa [M.blocks] using hb) rfl
theorem SynOwn_mk {e : TypeId} {xa : Option Addr} {xc : Nat} {x : List Int} {a : Option Addr} {cap : Nat} {ms : List M} {w : World} {lo : Nat} (h1 : (M.sl xa xc 1 3 (intM x)).Mine w lo) (h2 : (M.sl a cap 5 e ms).Mine w lo)
    (hd : ∀ b ∈ (M.sl a cap 5 e ms).blocks, b ∉ addrBlocks xa) : (SynOwn e xa xc x a cap ms).Mine w lo :=
  ⟨⟨h1.own, h2.own, trivial⟩, by
    simp only [SynOwn, M.blocks, M.blocksL, List.append_nil]
    refine List.nodup_append.2 ⟨h1.dup, h2.dup, fun b hb b' hb' he => ?_⟩
    subst he
    simp only [intM_blocks, List.append_nil] at hb
    exact hd b hb' hb⟩
def MarkedAtSy (k : Int) (xa : Option Addr) (xc xn : Nat) (a : Option Addr) (cap : Nat) (ms : List M) (ds : List Syn) (lo hi : Nat) (w : World) (e : Ending) (w' : World) : Prop :=
  ∃ ms', e = .returned (.int .i64 (k + ((xn : Int) + (Syn.placesL ds : Int)))) ∧ ms'.length = ms.length ∧ Syn.IsL 43 (Syn.markL (k + (xn : Int)) ds) ms' ∧ (SynOwn 43 xa xc (cnt k xn) a cap ms').At lo hi w' ∧ OnlyIn lo hi w w'
theorem markSyntax_at (ds : List Syn) (k0 n0 : Int) (s0 : ByteArray) (x : List Int) (xa : Option Addr) (xc : Nat) (a : Option Addr) (cap : Nat) (ms : List M) (k : Int) (lo hi : Nat) (w : World) (hi' : Syn.IsL 43 ds ms)
    (h : (SynOwn 43 xa xc x a cap ms).At lo hi w) (hk0 : 0 ≤ k) (hkb : k + (x.length : Int) + (Syn.placesL ds : Int) ≤ 1000000000000) :
    Calls Try.prog 38 #[.agg #[.int .i64 k0, .int .i64 n0, .string s0, .slice xa x.length xc, .slice a ms.length cap], .int .i64 k] w (MarkedAtSy k xa xc x.length a cap ms ds lo hi w) := by
  have hsz := h.hi
  have hlt := h.lt
  have hmx := SynOwn_x h.mine
  have hms := SynOwn_ms h.mine
  have hdis := SynOwn_dis h.mine
  have hlx : ∀ b ∈ addrBlocks xa, lo ≤ b ∧ b < hi := fun b hb => ⟨(Mine.addr_lo hmx b hb).1, hlt b (by simp [SynOwn, M.blocks, M.blocksL, hb])⟩
  have hlm : ∀ b ∈ (M.sl a cap 5 43 ms).blocks, lo ≤ b ∧ b < hi := fun b hb => ⟨(hms.lt b hb).1, hlt b (by simp only [SynOwn, M.blocks, M.blocksL, intM_blocks] at hb ⊢; simp [List.mem_append.1 hb])⟩
  have HI' := Lib.hid hi'; clear hi'; have HLT := Lib.hid hlt; clear hlt; have HMX := Lib.hid hmx; clear hmx; have HMS := Lib.hid hms; clear hms; have HDIS := Lib.hid hdis; clear hdis; have HLX := Lib.hid hlx; clear hlx; have HLM := Lib.hid hlm; clear hlm
  clear h
  go_enter Try.func38, Try.ntmps38
  go_wp2_with fail
  refine (markIntS_calls xa xc x k lo _ (HMX.out.below (by (repeat (first | with_reducible assumption | with_reducible exact Below.refl _ _ | with_reducible refine Below.drew ?_ | with_reducible refine belowDrewN ?_ _ | ((with_reducible refine Below.setCell ?_ ?_ _); rotate_left; focus (first | omega | (simp; done) | (simp; omega))) | ((with_reducible refine Below.alloc ?_ ?_ _); rotate_left; focus (first | omega | (simp; done) | (simp; omega))))))) hk0 (by omega)).mono ?_
  rintro e w1 ⟨rfl, hm1, ho1⟩
  have hc1 : w1.cell? ⟨w.heap.size, 4, none⟩ = some (.slice a ms.length cap) := by
    rw [World.cell?_of_block (ho1.block w.heap.size (by simp) (fun hb => by have := (HLX.out _ hb).2; omega))]
    simp [go_sem]
  have hb1 : (M.sl a cap 5 43 ms).Mine w1 lo := (HMS.out.below (by (repeat (first | with_reducible assumption | with_reducible exact Below.refl _ _ | with_reducible refine Below.drew ?_ | with_reducible refine belowDrewN ?_ _ | ((with_reducible refine Below.setCell ?_ ?_ _); rotate_left; focus (first | omega | (simp; done) | (simp; omega))) | ((with_reducible refine Below.alloc ?_ ?_ _); rotate_left; focus (first | omega | (simp; done) | (simp; omega))))))).only ho1 HDIS.out
  have hz1 := ho1.size
  simp only [World.size_alloc] at hz1
  have hoi1 : OnlyIn lo hi w w1 := (OnlyIn.of ho1 HLX.out).before (by (repeat (first | with_reducible assumption | with_reducible exact Below.refl _ _ | with_reducible refine Below.drew ?_ | with_reducible refine belowDrewN ?_ _ | ((with_reducible refine Below.setCell ?_ ?_ _); rotate_left; focus (first | omega | (simp; done) | (simp; omega))) | ((with_reducible refine Below.alloc ?_ ?_ _); rotate_left; focus (first | omega | (simp; done) | (simp; omega))))))
  have HM1 := Lib.hid hm1; clear hm1; have HO1 := Lib.hid ho1; clear ho1; have HB1 := Lib.hid hb1; clear hb1; have HOI1 := Lib.hid hoi1; clear hoi1
  go_wp2_with fail
  refine (markSyntaxS_calls ds a cap ms (k + (x.length : Int)) lo _ HI'.out HB1.out (by omega) hkb).mono ?_
  rintro e w2 ⟨rfl, ms', hml, hi2, hm2, hbl, ho2⟩
  have hblk : (M.sl a cap 5 43 ms').blocks = (M.sl a cap 5 43 ms).blocks := by simp [M.blocks, hbl]
  have hmx2 : (M.sl xa xc 1 3 (intM (cnt k x.length))).Mine w2 lo := HM1.out.only ho2 fun b hb hn => by
    simp only [M.blocks, intM_blocks, List.append_nil] at hb
    exact HDIS.out b hn hb
  have hown : (SynOwn 43 xa xc (cnt k x.length) a cap ms').Mine w2 lo := SynOwn_mk hmx2 hm2 (by rw [hblk]; exact HDIS.out)
  have hz2 := ho2.size
  have hat : (SynOwn 43 xa xc (cnt k x.length) a cap ms').At lo hi w2 := ⟨hown, fun b hb => by
    simp only [SynOwn, M.blocks, M.blocksL, intM_blocks, List.append_nil, List.mem_append] at hb
    rcases hb with hb | hb
    · exact (HLX.out b hb).2
    · exact (HLM.out b (by rw [← hblk]; simpa [M.blocks] using hb)).2, by omega⟩
  have hoi2 : OnlyIn lo hi w w2 := by
    have h2 := OnlyIn.of ho2 HLM.out
    have h1 := HOI1.out
    exact ⟨h2.os.trans h1.os, h2.tape.trans h1.tape, h2.output.trans h1.output, Nat.le_trans h1.size h2.size, fun q hq hd => (h2.block q (Nat.lt_of_lt_of_le hq h1.size) hd).trans (h1.block q hq hd)⟩
  have HML := Lib.hid hml; clear hml; have HI2 := Lib.hid hi2; clear hi2; have HM2 := Lib.hid hm2; clear hm2; have HBL := Lib.hid hbl; clear hbl; have HO2 := Lib.hid ho2; clear ho2; have HBLK := Lib.hid hblk; clear hblk; have HMX2 := Lib.hid hmx2; clear hmx2; have HOWN := Lib.hid hown; clear hown; have HAT := Lib.hid hat; clear hat; have HOI2 := Lib.hid hoi2; clear hoi2
  go_wp2_with fail
  go_ret
  exact ⟨ms', ret_i (by omega), HML.out, HI2.out, HAT.out, HOI2.out⟩
end Go.Proofs.Ytoflfamfhpijcaa
