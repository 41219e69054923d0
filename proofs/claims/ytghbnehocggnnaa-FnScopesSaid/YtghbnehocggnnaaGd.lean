/-
  Texts set together by wip/tools/merge.py: MX2, StrP, Q5, N7, D4, DM1, DM2, B1, Q6, Step3, Q7, Q8, MX3, MX4, SC2. No condition beyond those told with each.
-/
import Derived.Test.YtghbnehocggnnaaGc
import Derived.Deep.RegionLaw
/-
  Walks: scopes drawn into a piece of syntax, in place. No condition. (printed by wip/tools/mkmix.py)
-/

set_option linter.unusedVariables false
set_option linter.unusedSimpArgs false
set_option maxRecDepth 100000
namespace Go.Proofs.Ytghbnehocggnnaa
open Go.RowKit

mutual
def Mix : Syn → Syn → Prop
  | .mk k n s x ds, .mk k' n' s' x' ds' => k' = k ∧ n' = n ∧ s' = s ∧ (x' = x ∨ x'.length ≤ 7 ∧ Small x') ∧ MixL ds ds'
def MixL : List Syn → List Syn → Prop
  | [], ds' => ds' = []
  | d :: r, ds' => ∃ d' r', ds' = d' :: r' ∧ Mix d d' ∧ MixL r r'
end
theorem MixL.length : ∀ {ds es : List Syn}, MixL ds es → es.length = ds.length
  | [], _, h => by simp [MixL] at h; simp [h]
  | d :: r, es, h => by
    obtain ⟨d', r', rfl, _, h2⟩ := h
    simp [MixL.length h2]
theorem MixL.snoc {d d' : Syn} (hd : Mix d d') : ∀ {ds es : List Syn}, MixL ds es → MixL (ds ++ [d]) (es ++ [d'])
  | [], _, h => by simp [MixL] at h; subst h; exact ⟨d', [], rfl, hd, rfl⟩
  | x :: r, es, h => by
    obtain ⟨y, r', rfl, h1, h2⟩ := h
    exact ⟨y, r' ++ [d'], rfl, h1, MixL.snoc hd h2⟩
def RetMix (k n : Int) (s : ByteArray) (x : List Int) (ds : List Syn) (xa : Option Addr) (a : Option Addr) (cap : Nat) (ms : List M) (pb : Nat) (ca : Option Addr) (cc : Nat) (l : List Int) (lo : Nat) (w : World) (e : Ending) (w' : World) : Prop :=
  ∃ x' xa' xc' ds' ms', e = .returned (.agg #[.int .i64 k, .int .i64 n, .string s, .slice xa' x'.length xc', .slice a ms'.length cap]) ∧ ms'.length = ms.length ∧ (x' = x ∨ x'.length ≤ 7 ∧ Small x') ∧ MixL ds ds' ∧ Syn.IsL 27 ds' ms' ∧
    (SynOwn 27 xa' xc' x' a cap ms').Mine w' lo ∧ Cur pb ca cc l w' ∧ Only (pb :: (M.sl a cap 5 27 ms).blocks) w w' ∧
    (∀ b ∈ (M.sl a cap 5 27 ms').blocks, b ∈ (M.sl a cap 5 27 ms).blocks ∨ w.heap.size ≤ b) ∧ (∀ b ∈ addrBlocks xa', b ∈ addrBlocks xa ∨ w.heap.size ≤ b)
def MixSs (ds : List Syn) : Prop := ∀ (k n : Int) (s : ByteArray) (x : List Int) (xa : Option Addr) (xc : Nat) (a : Option Addr) (cap : Nat) (ms : List M) (pb : Nat) (ca : Option Addr) (cc : Nat) (l : List Int) (lo : Nat) (w : World),
    Syn.IsL 27 ds ms → (SynOwn 27 xa xc x a cap ms).Mine w lo → Cur pb ca cc l w → pb < lo → lo ≤ w.heap.size →
    Calls Try.prog 114 #[.pointer (some ⟨pb, 0, none⟩), .agg #[.int .i64 k, .int .i64 n, .string s, .slice xa x.length xc, .slice a ms.length cap]] w (RetMix k n s x ds xa a cap ms pb ca cc l lo w)
theorem SynOwn_swapX {e : TypeId} {xa xa' : Option Addr} {xc xc' : Nat} {x x' : List Int} {a : Option Addr} {cap : Nat} {ms : List M} {w' : World} {lo c : Nat} (h : (SynOwn e xa xc x a cap ms).Mine w' lo) (h2 : (M.sl xa' xc' 1 3 (intM x')).Mine w' c) (hl : lo ≤ c) (hb : ∀ b ∈ (M.sl a cap 5 e ms).blocks, b < c) : (SynOwn e xa' xc' x' a cap ms).Mine w' lo :=
  ⟨⟨(h2.mono hl).own, (SynOwn_ms h).own, trivial⟩, by
    rw [SynOwn_blocks]
    refine List.nodup_append.2 ⟨by have := h2.dup; simpa [M.blocks, intM_blocks] using this, (SynOwn_ms h).dup, fun b hb1 b' hb2 he => ?_⟩
    subst he
    have := (h2.lt b (by simpa [M.blocks, intM_blocks] using hb1)).1
    have := hb b hb2
    omega⟩
theorem synM_cells (e : TypeId) (k n : Int) (s : ByteArray) (xa : Option Addr) (xc : Nat) (x : List Int) (a : Option Addr) (cap : Nat) (ms : List M) : (synM e k n s xa xc x a cap ms).cells = [.int .i64 k, .int .i64 n, .string s, .slice xa x.length xc, .slice a ms.length cap] := by
  simp [synM, M.cells, M.cellsL, intM_length]
theorem setCells5 (w : World) (g o : Nat) (u0 u1 u2 u3 u4 : Value) : setCells w g o [u0, u1, u2, u3, u4] = (((((w.setCell ⟨g, o, none⟩ u0).setCell ⟨g, o + 1, none⟩ u1).setCell ⟨g, o + 2, none⟩ u2).setCell ⟨g, o + 3, none⟩ u3).setCell ⟨g, o + 4, none⟩ u4) := rfl
set_option maxHeartbeats 16000000 in
theorem l2Mixed_calls : ∀ ds, MixSs ds := by
  refine Syn.inductL fun ds ih => ?_
  intro k n s x xa xc a cap ms pb ca cc l lo w hi hm hc hpl hlo
  have hpw := hc.lt
  have hln := hi.length
  have hcapm := (SynOwn_ms hm).in_.len
  have hxl := Ints.len (SynOwn_x hm).in_
  have hblk : ∀ b ∈ (M.sl a cap 5 27 ms).blocks, b < w.heap.size := fun b hb => ((SynOwn_ms hm).lt b hb).2
  by_cases hk : k = 1
  · subst hk
    have IH := Lib.hid ih; clear ih; have HI := Lib.hid hi; clear hi; have HM := Lib.hid hm; clear hm; have HC := Lib.hid hc; clear hc; have HLN := Lib.hid hln; clear hln; have HBLK := Lib.hid hblk; clear hblk
    go_enter Try.func114, Try.ntmps114
    go_wp2_with fail
    refine (l01Once_calls 2 pb ca cc l _ (HC.out.below (by (repeat (first | with_reducible assumption | with_reducible exact Below.refl _ _ | with_reducible refine Below.drew ?_ | with_reducible refine belowDrewN ?_ _ | ((with_reducible refine Below.setCell ?_ ?_ _); rotate_left; focus (first | omega | (simp; done) | (simp; omega))) | ((with_reducible refine Below.alloc ?_ ?_ _); rotate_left; focus (first | omega | (simp; done) | (simp; omega))))))) (by decide) (by decide)).mono ?_
    rintro e w1 ⟨bb, rfl, hc1, ho1⟩
    have hz1 := ho1.size
    simp only [World.size_alloc] at hz1
    have hq1 : SBox w.heap.size 1 n s (.slice xa x.length xc) (.slice a ms.length cap) w1 := (((SBox.new 1 n s _ _ w).of (heapNew _ _ _ (by simp))).only ho1 (.inr (by omega)))
    have hr1 : SBox (w.heap.size + 1) 0 0 ⟨#[]⟩ (.slice none 0 0) (.slice none 0 0) w1 := by
      have := SBox.new 0 0 ⟨#[]⟩ (.slice none 0 0) (.slice none 0 0) (w.alloc (.cells #[.int .i64 1, .int .i64 n, .string s, .slice xa x.length xc, .slice a ms.length cap] 27))
      rw [World.size_alloc] at this
      exact this.only ho1 (.inr (by omega))
    have ho1' : Only [pb] w w1 := ((Only.refl _ w).alloc _ |>.alloc _).thenN (Only.ofIn ho1 (fun x h1 h2 => by simp; omega)) (fun x hx => .inl hx)
    have hm1 := HM.out.only ho1' (fun b hb hn => by have := (HM.out.lt b hb).1; simp at hn; omega)
    have HC1 := Lib.hid hc1; clear hc1; have HO1 := Lib.hid ho1; clear ho1; have HQ1 := Lib.hid hq1; clear hq1; have HR1 := Lib.hid hr1; clear hr1; have HO1' := Lib.hid ho1'; clear ho1'; have HM1 := Lib.hid hm1; clear hm1
    cases bb with
    | false =>
      obtain ⟨⟨q0, q1, q2, q3, q4, e0, e1, e2, e3, e4⟩, ⟨r0, r1, r2, r3, r4, g0, g1, g2, g3, g4⟩⟩ := And.intro HQ1.out HR1.out
      go_wp2_with fail
      go_loopw [19] (fun i wr => ∃ (j : Nat) (ns : List M) (pre : List Syn), j ≤ ms.length ∧ i = .int .i64 j ∧ ns.length = ms.length ∧ MixL (ds.take j) pre ∧ Syn.IsL 27 (pre ++ ds.drop j) ns ∧ (SynOwn 27 xa xc x a cap ns).Mine wr lo ∧
        (∀ b ∈ (M.sl a cap 5 27 ns).blocks, b ∈ (M.sl a cap 5 27 ms).blocks ∨ w.heap.size + 1 + 1 ≤ b) ∧ Cur pb ca cc l wr ∧ SBox w.heap.size 1 n s (.slice xa x.length xc) (.slice a ms.length cap) wr ∧ SBox (w.heap.size + 1) 0 0 ⟨#[]⟩ (.slice none 0 0) (.slice none 0 0) wr ∧ Only (pb :: (M.sl a cap 5 27 ms).blocks) w wr ∧ w.heap.size + 1 + 1 ≤ wr.heap.size) (fun i _ => ms.length - (intOf i).toNat)
      case atStart => exact ⟨0, ms, [], Nat.zero_le _, rfl, rfl, rfl, HI.out, HM1.out, fun b hb => .inl hb, HC1.out, HQ1.out, HR1.out, (HO1'.out).mono (fun x hx => by simp at hx; simp [hx]), HR1.out.lt⟩
      case round =>
        (try clear q0 q1 q2 q3 q4 e0 e1 e2 e3 e4)
        (try clear r0 r1 r2 r3 r4 g0 g1 g2 g3 g4)
        obtain ⟨j, ns, pre, hj, rfl, hnl, hmx, hi', hm', hbl, hcr, hq, hr, ho, hsz⟩ := hrel
        obtain ⟨q0, q1, q2, q3, q4, e0, e1, e2, e3, e4⟩ := hq
        obtain ⟨r0, r1, r2, r3, r4, g0, g1, g2, g3, g4⟩ := hr
        by_cases hlt : j < ms.length
        · have hjd : j < ds.length := by have := HLN.out; omega
          have hjn : j < ns.length := by omega
          have hpl1 := hmx.length
          rw [List.length_take, Nat.min_eq_left (by omega)] at hpl1
          have hdj : ds[j]? = some ds[j] := List.getElem?_eq_getElem hjd
          have hmem : ds[j] ∈ ds := List.getElem_mem hjd
          have hg := hi'.get j (by rw [List.length_append, List.length_drop]; omega) hjn
          have hge : (pre ++ ds.drop j)[j]'(by rw [List.length_append, List.length_drop]; omega) = ds[j] := by
            rw [List.getElem_append_right (by omega)]
            simp [hpl1]
          rw [hge] at hg
          generalize hd1 : ds[j] = d1 at *
          obtain ⟨k1, n1, s1, x1, ds1⟩ := d1
          obtain ⟨xa1, xc1, a1, cap1, ms1, hmj, hi1⟩ := hg
          obtain ⟨g, rfl, hlg, hgw⟩ := (SynOwn_ms hm').addr (by omega)
          obtain ⟨⟨v0, t0⟩, f0⟩ := (SynOwn_ms hm').row (j * 5) (by omega)
          obtain ⟨⟨v1, t1⟩, f1⟩ := (SynOwn_ms hm').row (j * 5 + 1) (by omega)
          obtain ⟨⟨v2, t2⟩, f2⟩ := (SynOwn_ms hm').row (j * 5 + 2) (by omega)
          obtain ⟨⟨v3, t3⟩, f3⟩ := (SynOwn_ms hm').row (j * 5 + 3) (by omega)
          obtain ⟨⟨v4, t4⟩, f4⟩ := (SynOwn_ms hm').row (j * 5 + 4) (by omega)
          clear t0 t1 t2 t3 t4
          obtain ⟨bb, oo, hg0, hel⟩ := (SynOwn_ms hm').in_.elem (by omega)
          obtain ⟨rfl, rfl⟩ : g = bb ∧ oo = 0 := by simp only [Option.some.injEq, Addr.mk.injEq, and_true] at hg0; exact ⟨hg0.1, hg0.2.symm⟩
          have c0 := hel j hjn 0 (.int .i64 k1) (by rw [hmj]; rfl)
          have c1 := hel j hjn 1 (.int .i64 n1) (by rw [hmj]; rfl)
          have c2 := hel j hjn 2 (.string s1) (by rw [hmj]; rfl)
          have c3 := hel j hjn 3 (.slice xa1 (intM x1).length xc1) (by rw [hmj]; rfl)
          have c4 := hel j hjn 4 (.slice a1 ms1.length cap1) (by rw [hmj]; rfl)
          simp only [Nat.zero_add, Nat.add_zero, intM_length] at c0 c1 c2 c3 c4
          clear hel hg0
          have hin := (SynOwn_ms hm').inner j hjn
          rw [hmj] at hin
          have hso : (SynOwn 27 xa1 xc1 x1 a1 cap1 ms1).Mine wr.drew lo := (synM_own (k := k1) (n := n1) (s := s1) hin).keep (fun b _ _ => rfl)
          have hcd : Cur pb ca cc l wr.drew := hcr.below ((Below.refl _ _).drew)
          have hmd : (SynOwn 27 xa xc x (some ⟨g, 0, none⟩) cap ns).Mine wr.drew lo := hm'.keep (fun b _ _ => rfl)
          have hsubr : ∀ b ∈ (M.sl a1 cap1 5 27 ms1).blocks, b ∈ (M.sl (some ⟨g, 0, none⟩) cap 5 27 ns).blocks := fun b hb => by
            simp only [M.blocks]
            rw [List.mem_append]
            exact .inr (mem_blocksL.2 ⟨_, List.getElem_mem hjn, by rw [hmj]; simp only [M.blocks, M.blocksL, List.append_nil, List.nil_append] at hb ⊢; simp [hb]⟩)
          have hgn : g ∉ (M.sl a1 cap1 5 27 ms1).blocks := fun hb => by
            have hd := (SynOwn_ms hm').dup
            simp only [M.blocks, addrBlocks] at hd
            exact (List.nodup_append.1 hd).2.2 g (by simp) g (mem_blocksL.2 ⟨_, List.getElem_mem hjn, by rw [hmj]; simp only [M.blocks, M.blocksL, List.append_nil, List.nil_append] at hb ⊢; simp [hb]⟩) rfl
          have hgo : g ∈ (M.sl (some ⟨g, 0, none⟩) cap 5 27 ms).blocks := by simp [M.blocks, addrBlocks]
          have hgp : g ≠ pb := by omega
          have hgW : g < w.heap.size := HBLK.out g hgo
          have hbox : ∀ b, (b = w.heap.size ∨ b = w.heap.size + 1) → b ∉ pb :: (M.sl a1 cap1 5 27 ms1).blocks := fun b hb hn => by
            rcases List.mem_cons.1 hn with h1 | h1
            · omega
            · rcases hbl b (hsubr b h1) with h2 | h2
              · have := HBLK.out b h2; omega
              · omega
          have hlod : lo ≤ wr.drew.heap.size := by rw [World.size_drew]; omega
          clear hge
          have hcall := IH.out k1 n1 s1 x1 ds1 hmem k1 n1 s1 x1 xa1 xc1 a1 cap1 ms1 pb ca cc l lo wr.drew hi1 hso hcd hpl hlod
          have HCALL := Lib.hid hcall; clear hcall; have HMX := Lib.hid hmx; clear hmx; have HI' := Lib.hid hi'; clear hi'; have HM' := Lib.hid hm'; clear hm'; have HBL := Lib.hid hbl; clear hbl; have HCR := Lib.hid hcr; clear hcr; have HO := Lib.hid ho; clear ho; have HDJ := Lib.hid hdj; clear hdj; have HMEM := Lib.hid hmem; clear hmem; have HMJ := Lib.hid hmj; clear hmj; have HI1 := Lib.hid hi1; clear hi1; have HIN := Lib.hid hin; clear hin; have HSO := Lib.hid hso; clear hso; have HCD := Lib.hid hcd; clear hcd; have HMD := Lib.hid hmd; clear hmd; have HSUBR := Lib.hid hsubr; clear hsubr; have HGN := Lib.hid hgn; clear hgn; have HGO := Lib.hid hgo; clear hgo; have HBOX := Lib.hid hbox; clear hbox; have HPL1 := Lib.hid hpl1; clear hpl1; have HNL := Lib.hid hnl; clear hnl; have HD1 := Lib.hid hd1; clear hd1; have HLOD := Lib.hid hlod; clear hlod
          go_wp2_with fail
          go_region_law (first
            | (go_simp; go_at_call 114; (with_reducible refine HCALL.out.mono ?_); rintro e w5 ⟨x2, xa2, xc2, ds2, ms2, rfl, hl2, hx2, hmx2, hi2, hm2, hc2', ho2', hb2, hb2'⟩; have hgk : w5.heap[g]? = wr.heap[g]? := (ho2'.block g hgw (by intro hn; rcases List.mem_cons.1 hn with h1 | h1; exact hgp h1; exact HGN.out h1)); have hqk : w5.heap[w.heap.size]? = wr.heap[w.heap.size]? := (ho2'.block _ (by simp; omega) (HBOX.out _ (.inl rfl))); have d0 := (World.cell?_of_block (a := ⟨g, j * 5, none⟩) hgk).trans c0; have d1 := (World.cell?_of_block (a := ⟨g, j * 5 + 1, none⟩) hgk).trans c1; have d2 := (World.cell?_of_block (a := ⟨g, j * 5 + 2, none⟩) hgk).trans c2; have d3 := (World.cell?_of_block (a := ⟨g, j * 5 + 3, none⟩) hgk).trans c3; have d4 := (World.cell?_of_block (a := ⟨g, j * 5 + 4, none⟩) hgk).trans c4; have k0 := (World.frozen?_of_block (a := ⟨g, j * 5, none⟩) hgk).trans f0; have k1' := (World.frozen?_of_block (a := ⟨g, j * 5 + 1, none⟩) hgk).trans f1; have k2' := (World.frozen?_of_block (a := ⟨g, j * 5 + 2, none⟩) hgk).trans f2; have k3' := (World.frozen?_of_block (a := ⟨g, j * 5 + 3, none⟩) hgk).trans f3; have k4' := (World.frozen?_of_block (a := ⟨g, j * 5 + 4, none⟩) hgk).trans f4; have q4c := (World.cell?_of_block (a := ⟨w.heap.size, 4, none⟩) hqk).trans q4; have HX2 := Lib.hid hx2; have HMX2 := Lib.hid hmx2; have HI2 := Lib.hid hi2; have HM2' := Lib.hid hm2; have HC2' := Lib.hid hc2'; have HO2' := Lib.hid ho2'; have HB2 := Lib.hid hb2; have HB2' := Lib.hid hb2'; have HL2 := Lib.hid hl2; clear hx2 hmx2 hi2 hm2 hc2' ho2' hb2 hb2' hl2))
          all_goals
            obtain ⟨hfin, hfb⟩ := M.Mine.mixElem HMD.out hjn (k1 := k1) (n1 := n1) (s1 := s1) HMJ.out HM2'.out HL2.out HO2'.out hpl HB2.out HB2'.out
            have hO5 : Only (pb :: (M.sl (some ⟨g, 0, none⟩) cap 5 27 ms).blocks) w w5 := HO.out.thenN (c := w5) ((Only.refl _ wr).drewN 1 |>.thenN HO2'.out (fun x hx => .inl hx)) (fun x hx => by
              rcases List.mem_cons.1 hx with h1 | h1
              · exact .inl (by simp [h1])
              · rcases HBL.out x (HSUBR.out x h1) with h2 | h2
                · exact .inl (List.mem_cons_of_mem _ h2)
                · exact .inr (by omega))
            have hO6 := setCells_Only g (List.mem_cons_of_mem pb HGO.out) (synM 27 k1 n1 s1 xa2 xc2 x2 a1 cap1 ms2).cells w5 (j * 5) hO5
            have hz5 := HO2'.out.size
            rw [World.size_drew] at hz5
            have hcF : Cur pb ca cc l (setCells w5 g (j * 5) (synM 27 k1 n1 s1 xa2 xc2 x2 a1 cap1 ms2).cells) := HC2'.out.belowB (B := lo) ((setCells_Only g (bs := [g]) (by simp) _ _ _ (Only.refl _ w5)).below (by omega) (by simp; omega)) hpl
            have hqF : SBox w.heap.size 1 n s (.slice xa x.length xc) (.slice (some ⟨g, 0, none⟩) ms.length cap) (setCells w5 g (j * 5) (synM 27 k1 n1 s1 xa2 xc2 x2 a1 cap1 ms2).cells) := (SBox.of ⟨q0, q1, q2, q3, q4, e0, e1, e2, e3, e4⟩ (HO2'.out.block _ (by simp; omega) (HBOX.out _ (.inl rfl)))).of (setCells_other g _ (by omega) _ _ _)
            have hrF : SBox (w.heap.size + 1) 0 0 ⟨#[]⟩ (.slice none 0 0) (.slice none 0 0) (setCells w5 g (j * 5) (synM 27 k1 n1 s1 xa2 xc2 x2 a1 cap1 ms2).cells) := (SBox.of ⟨r0, r1, r2, r3, r4, g0, g1, g2, g3, g4⟩ (HO2'.out.block _ (by simp; omega) (HBOX.out _ (.inr rfl)))).of (setCells_other g _ (by omega) _ _ _)
            have hmF : MixL (ds.take (j + 1)) (pre ++ [.mk k1 n1 s1 x2 ds2]) := by
              rw [take_snoc HDJ.out]; exact MixL.snoc (d := .mk k1 n1 s1 x1 ds1) (d' := .mk k1 n1 s1 x2 ds2) ⟨rfl, rfl, rfl, HX2.out, HMX2.out⟩ HMX.out
            have hiF : Syn.IsL 27 ((pre ++ [.mk k1 n1 s1 x2 ds2]) ++ ds.drop (j + 1)) (ns.set j (synM 27 k1 n1 s1 xa2 xc2 x2 a1 cap1 ms2)) := by
              have h := HI'.out.set j (d := .mk k1 n1 s1 x2 ds2) (m := synM 27 k1 n1 s1 xa2 xc2 x2 a1 cap1 ms2) ⟨xa2, xc2, a1, cap1, ms2, rfl, HI2.out⟩
              rwa [List.set_append, if_neg (by have := HPL1.out; omega), HPL1.out, Nat.sub_self, List.drop_eq_getElem_cons hjd, List.set_cons_zero, ← List.singleton_append, ← List.append_assoc] at h
            have hbF : ∀ b ∈ (M.sl (some ⟨g, 0, none⟩) cap 5 27 (ns.set j (synM 27 k1 n1 s1 xa2 xc2 x2 a1 cap1 ms2))).blocks, b ∈ (M.sl (some ⟨g, 0, none⟩) cap 5 27 ms).blocks ∨ w.heap.size + 1 + 1 ≤ b := fun b hb => by
              rcases hfb b hb with h1 | h1
              · exact HBL.out b h1
              · rw [World.size_drew] at h1; exact .inr (by omega)
            have hnF : (ns.set j (synM 27 k1 n1 s1 xa2 xc2 x2 a1 cap1 ms2)).length = ms.length := by rw [List.length_set]; exact HNL.out
            have hzF : w.heap.size + 1 + 1 ≤ (setCells w5 g (j * 5) (synM 27 k1 n1 s1 xa2 xc2 x2 a1 cap1 ms2).cells).heap.size := by rw [setCells_size]; omega
            rw [synM_cells, setCells5] at hfin hO6 hcF hqF hrF hzF
            have HFIN := Lib.hid hfin; clear hfin; have HFB := Lib.hid hfb; clear hfb; have HO5 := Lib.hid hO5; clear hO5; have HO6 := Lib.hid hO6; clear hO6; have HCF := Lib.hid hcF; clear hcF; have HQF := Lib.hid hqF; clear hqF; have HRF := Lib.hid hrF; clear hrF; have HMF := Lib.hid hmF; clear hmF; have HIF := Lib.hid hiF; clear hiF; have HBF := Lib.hid hbF; clear hbF; have HNF := Lib.hid hnF; clear hnF; have HZF := Lib.hid hzF; clear hzF
            go_wp2_with fail
            go_roundw
            case rel => exact ⟨j + 1, ns.set j (synM 27 k1 n1 s1 xa2 xc2 x2 a1 cap1 ms2), pre ++ [.mk k1 n1 s1 x2 ds2], by omega, by go_num, HNF.out, HMF.out, HIF.out, HFIN.out, HBF.out, HCF.out, HQF.out, HRF.out, HO6.out, HZF.out⟩
            case measure => simp [intOf]; omega
        · have hj2 : j = ms.length := by omega
          subst hj2
          have hdl := HLN.out
          rw [hdl, List.take_length] at hmx
          rw [hdl, List.drop_length, List.append_nil] at hi'
          clear hdl
          have hxnew : ∀ b ∈ addrBlocks xa, b ∈ addrBlocks xa ∨ w.heap.size + 1 + 1 ≤ b := (fun b hb => .inl hb)
          have hret : RetMix 1 n s x ds xa a cap ms pb ca cc l lo w (.returned (.agg #[.int .i64 1, .int .i64 n, .string s, .slice xa x.length xc, .slice a ms.length cap])) (setCells wr (w.heap.size + 1) 0 [.int .i64 1, .int .i64 n, .string s, .slice xa x.length xc, .slice a ms.length cap]) := by
            refine ⟨x, xa, xc, pre, ns, by rw [hnl], hnl, (.inl rfl), hmx, hi', ?_, ?_, ?_, ?_, ?_⟩
            · exact hm'.keep2 (fun b hb => by
                refine setCells_other (w.heap.size + 1) b (fun he => ?_) _ wr 0
                subst he
                rw [SynOwn_blocks] at hb
                rcases List.mem_append.1 hb with h1 | h1
                · rcases hxnew _ h1 with h2 | h2
                  · have := (HM.out.lt (w.heap.size + 1) (by rw [SynOwn_blocks, List.mem_append]; exact .inl h2)).2; omega
                  · omega
                · rcases hbl _ h1 with h2 | h2
                  · have := HBLK.out _ h2; omega
                  · omega)
            · exact hcr.belowB (B := w.heap.size) ((setCells_Only (w.heap.size + 1) (bs := [w.heap.size + 1]) (by simp) [.int .i64 1, .int .i64 n, .string s, .slice xa x.length xc, .slice a ms.length cap] wr 0 (Only.refl _ wr)).below (by omega) (by simp)) hpw
            · exact ho.thenN (setCells_Only (w.heap.size + 1) (bs := [w.heap.size + 1]) (by simp) [.int .i64 1, .int .i64 n, .string s, .slice xa x.length xc, .slice a ms.length cap] wr 0 (Only.refl _ wr)) (fun x hx => by simp at hx; subst hx; exact .inr (by omega))
            · exact fun b hb => by
                rcases hbl b hb with h1 | h1
                · exact .inl h1
                · exact .inr (by omega)
            · exact fun b hb => by
                rcases hxnew b hb with h1 | h1
                · exact .inl h1
                · exact .inr (by omega)
          simp only [setCells, Nat.zero_add, Nat.reduceAdd] at hret
          clear hxnew
          have HRET := Lib.hid hret; clear hret; have HMX := Lib.hid hmx; clear hmx; have HI' := Lib.hid hi'; clear hi'; have HM' := Lib.hid hm'; clear hm'; have HBL := Lib.hid hbl; clear hbl; have HCR := Lib.hid hcr; clear hcr; have HO := Lib.hid ho; clear ho; have HNL := Lib.hid hnl; clear hnl
          go_wp2_with fail
          refine bodyPost_ret (v := .agg #[.int .i64 1, .int .i64 n, .string s, .slice xa x.length xc, .slice a ms.length cap]) (by simp [results, Try.results114, go_sem, q0, q1, q2, q3, q4, r0, r1, r2, r3, r4]) rfl ?_
          exact HRET.out
    | true =>
      obtain ⟨⟨q0, q1, q2, q3, q4, e0, e1, e2, e3, e4⟩, ⟨r0, r1, r2, r3, r4, g0, g1, g2, g3, g4⟩⟩ := And.intro HQ1.out HR1.out
      go_wp2_with fail
      refine (l2Set_calls pb ca cc l _ HC1.out).mono ?_
      rintro e w2 ⟨L, la, lc, rfl, hL, hLs, hmL, hc2, ho2⟩
      have hz2 := ho2.size
      have hLl := Ints.len hmL.in_
      have hq2 : SBox w.heap.size 1 n s (.slice xa x.length xc) (.slice a ms.length cap) w2 := HQ1.out.only ho2 (.inr (by omega))
      have hr2 : SBox (w.heap.size + 1) 0 0 ⟨#[]⟩ (.slice none 0 0) (.slice none 0 0) w2 := HR1.out.only ho2 (.inr (by omega))
      have ho2' : Only [pb] w w2 := HO1'.out.thenN (Only.ofIn ho2 (fun x h1 h2 => by simp; omega)) (fun x hx => .inl hx)
      have hm2 := HM1.out.only (Only.ofIn (bs := [pb]) ho2 (fun x h1 h2 => by simp; omega)) (fun b hb hn => by have := (HM1.out.lt b hb).1; simp at hn; omega)
      have hmx : (SynOwn 27 la lc L a cap ms).Mine w2 lo := SynOwn_swapX hm2 hmL (by omega) (fun b hb => by have := HBLK.out b hb; omega)
      have hmL' := hmL.lt
      clear q0 q1 q2 q3 q4 e0 e1 e2 e3 e4 r0 r1 r2 r3 r4 g0 g1 g2 g3 g4
      obtain ⟨q0, q1, q2, q3, q4, e0, e1, e2, e3, e4⟩ := hq2
      have hq2 : SBox w.heap.size 1 n s (.slice xa x.length xc) (.slice a ms.length cap) w2 := ⟨q0, q1, q2, q3, q4, e0, e1, e2, e3, e4⟩
      have hq3 : SBox w.heap.size 1 n s (.slice la L.length lc) (.slice a ms.length cap) (w2.setCell ⟨w.heap.size, 3, none⟩ (.slice la L.length lc)) := hq2.set3 _
      have hr3 := hr2.far (a := ⟨w.heap.size, 3, none⟩) (.slice la L.length lc) (by simp)
      have hm3 : (SynOwn 27 la lc L a cap ms).Mine (w2.setCell ⟨w.heap.size, 3, none⟩ (.slice la L.length lc)) lo := hmx.keep2 (fun b hb => heapSet _ _ _ _ (by
        intro he
        rw [SynOwn_blocks] at hb
        simp only at he
        rcases List.mem_append.1 hb with h1 | h1
        · have := (hmL' b (by simpa [M.blocks, intM_blocks] using h1)).1; omega
        · have := HBLK.out b h1; omega))
      have hc3 : Cur pb ca cc l (w2.setCell ⟨w.heap.size, 3, none⟩ (.slice la L.length lc)) := hc2.belowB (B := w.heap.size) (Below.setCell (Below.refl _ _) (by simp) _) hpw
      have ho3 : Only [pb] w (w2.setCell ⟨w.heap.size, 3, none⟩ (.slice la L.length lc)) := ho2'.thenN ((Only.refl [w.heap.size] w2).setCell (p := ⟨w.heap.size, 3, none⟩) (by simp) _) (fun x hx => by simp at hx; subst hx; exact .inr (Nat.le_refl _))
      have hxn : ∀ b ∈ addrBlocks la, b ∈ addrBlocks xa ∨ w.heap.size + 1 + 1 ≤ b := fun b hb => .inr (by have := (hmL' b (by simpa [M.blocks, intM_blocks] using hb)).1; omega)
      have hxo : (L = x ∨ L.length ≤ 7 ∧ Small L) := .inr ⟨hL, hLs⟩
      clear hmL hmL' hm2 hmx hr2
      have HC2 := Lib.hid hc2; clear hc2; have HO2 := Lib.hid ho2; clear ho2; have HQ2 := Lib.hid hq2; clear hq2; have HQ3 := Lib.hid hq3; clear hq3; have HR3 := Lib.hid hr3; clear hr3; have HM3 := Lib.hid hm3; clear hm3; have HC3 := Lib.hid hc3; clear hc3; have HO3 := Lib.hid ho3; clear ho3; have HXN := Lib.hid hxn; clear hxn; have HXO := Lib.hid hxo; clear hxo; have HLS := Lib.hid hLs; clear hLs; have HO2' := Lib.hid ho2'; clear ho2'
      clear hL
      go_wp2_with fail
      go_loopw [19] (fun i wr => ∃ (j : Nat) (ns : List M) (pre : List Syn), j ≤ ms.length ∧ i = .int .i64 j ∧ ns.length = ms.length ∧ MixL (ds.take j) pre ∧ Syn.IsL 27 (pre ++ ds.drop j) ns ∧ (SynOwn 27 la lc L a cap ns).Mine wr lo ∧
        (∀ b ∈ (M.sl a cap 5 27 ns).blocks, b ∈ (M.sl a cap 5 27 ms).blocks ∨ w.heap.size + 1 + 1 ≤ b) ∧ Cur pb ca cc l wr ∧ SBox w.heap.size 1 n s (.slice la L.length lc) (.slice a ms.length cap) wr ∧ SBox (w.heap.size + 1) 0 0 ⟨#[]⟩ (.slice none 0 0) (.slice none 0 0) wr ∧ Only (pb :: (M.sl a cap 5 27 ms).blocks) w wr ∧ w.heap.size + 1 + 1 ≤ wr.heap.size) (fun i _ => ms.length - (intOf i).toNat)
      case atStart => exact ⟨0, ms, [], Nat.zero_le _, rfl, rfl, rfl, HI.out, HM3.out, fun b hb => .inl hb, HC3.out, HQ3.out, HR3.out, (HO3.out).mono (fun x hx => by simp at hx; simp [hx]), HR3.out.lt⟩
      case round =>
        (try clear q0 q1 q2 q3 q4 e0 e1 e2 e3 e4)
        (try clear r0 r1 r2 r3 r4 g0 g1 g2 g3 g4)
        obtain ⟨j, ns, pre, hj, rfl, hnl, hmx, hi', hm', hbl, hcr, hq, hr, ho, hsz⟩ := hrel
        obtain ⟨q0, q1, q2, q3, q4, e0, e1, e2, e3, e4⟩ := hq
        obtain ⟨r0, r1, r2, r3, r4, g0, g1, g2, g3, g4⟩ := hr
        by_cases hlt : j < ms.length
        · have hjd : j < ds.length := by have := HLN.out; omega
          have hjn : j < ns.length := by omega
          have hpl1 := hmx.length
          rw [List.length_take, Nat.min_eq_left (by omega)] at hpl1
          have hdj : ds[j]? = some ds[j] := List.getElem?_eq_getElem hjd
          have hmem : ds[j] ∈ ds := List.getElem_mem hjd
          have hg := hi'.get j (by rw [List.length_append, List.length_drop]; omega) hjn
          have hge : (pre ++ ds.drop j)[j]'(by rw [List.length_append, List.length_drop]; omega) = ds[j] := by
            rw [List.getElem_append_right (by omega)]
            simp [hpl1]
          rw [hge] at hg
          generalize hd1 : ds[j] = d1 at *
          obtain ⟨k1, n1, s1, x1, ds1⟩ := d1
          obtain ⟨xa1, xc1, a1, cap1, ms1, hmj, hi1⟩ := hg
          obtain ⟨g, rfl, hlg, hgw⟩ := (SynOwn_ms hm').addr (by omega)
          obtain ⟨⟨v0, t0⟩, f0⟩ := (SynOwn_ms hm').row (j * 5) (by omega)
          obtain ⟨⟨v1, t1⟩, f1⟩ := (SynOwn_ms hm').row (j * 5 + 1) (by omega)
          obtain ⟨⟨v2, t2⟩, f2⟩ := (SynOwn_ms hm').row (j * 5 + 2) (by omega)
          obtain ⟨⟨v3, t3⟩, f3⟩ := (SynOwn_ms hm').row (j * 5 + 3) (by omega)
          obtain ⟨⟨v4, t4⟩, f4⟩ := (SynOwn_ms hm').row (j * 5 + 4) (by omega)
          clear t0 t1 t2 t3 t4
          obtain ⟨bb, oo, hg0, hel⟩ := (SynOwn_ms hm').in_.elem (by omega)
          obtain ⟨rfl, rfl⟩ : g = bb ∧ oo = 0 := by simp only [Option.some.injEq, Addr.mk.injEq, and_true] at hg0; exact ⟨hg0.1, hg0.2.symm⟩
          have c0 := hel j hjn 0 (.int .i64 k1) (by rw [hmj]; rfl)
          have c1 := hel j hjn 1 (.int .i64 n1) (by rw [hmj]; rfl)
          have c2 := hel j hjn 2 (.string s1) (by rw [hmj]; rfl)
          have c3 := hel j hjn 3 (.slice xa1 (intM x1).length xc1) (by rw [hmj]; rfl)
          have c4 := hel j hjn 4 (.slice a1 ms1.length cap1) (by rw [hmj]; rfl)
          simp only [Nat.zero_add, Nat.add_zero, intM_length] at c0 c1 c2 c3 c4
          clear hel hg0
          have hin := (SynOwn_ms hm').inner j hjn
          rw [hmj] at hin
          have hso : (SynOwn 27 xa1 xc1 x1 a1 cap1 ms1).Mine wr.drew lo := (synM_own (k := k1) (n := n1) (s := s1) hin).keep (fun b _ _ => rfl)
          have hcd : Cur pb ca cc l wr.drew := hcr.below ((Below.refl _ _).drew)
          have hmd : (SynOwn 27 la lc L (some ⟨g, 0, none⟩) cap ns).Mine wr.drew lo := hm'.keep (fun b _ _ => rfl)
          have hsubr : ∀ b ∈ (M.sl a1 cap1 5 27 ms1).blocks, b ∈ (M.sl (some ⟨g, 0, none⟩) cap 5 27 ns).blocks := fun b hb => by
            simp only [M.blocks]
            rw [List.mem_append]
            exact .inr (mem_blocksL.2 ⟨_, List.getElem_mem hjn, by rw [hmj]; simp only [M.blocks, M.blocksL, List.append_nil, List.nil_append] at hb ⊢; simp [hb]⟩)
          have hgn : g ∉ (M.sl a1 cap1 5 27 ms1).blocks := fun hb => by
            have hd := (SynOwn_ms hm').dup
            simp only [M.blocks, addrBlocks] at hd
            exact (List.nodup_append.1 hd).2.2 g (by simp) g (mem_blocksL.2 ⟨_, List.getElem_mem hjn, by rw [hmj]; simp only [M.blocks, M.blocksL, List.append_nil, List.nil_append] at hb ⊢; simp [hb]⟩) rfl
          have hgo : g ∈ (M.sl (some ⟨g, 0, none⟩) cap 5 27 ms).blocks := by simp [M.blocks, addrBlocks]
          have hgp : g ≠ pb := by omega
          have hgW : g < w.heap.size := HBLK.out g hgo
          have hbox : ∀ b, (b = w.heap.size ∨ b = w.heap.size + 1) → b ∉ pb :: (M.sl a1 cap1 5 27 ms1).blocks := fun b hb hn => by
            rcases List.mem_cons.1 hn with h1 | h1
            · omega
            · rcases hbl b (hsubr b h1) with h2 | h2
              · have := HBLK.out b h2; omega
              · omega
          have hlod : lo ≤ wr.drew.heap.size := by rw [World.size_drew]; omega
          clear hge
          have hcall := IH.out k1 n1 s1 x1 ds1 hmem k1 n1 s1 x1 xa1 xc1 a1 cap1 ms1 pb ca cc l lo wr.drew hi1 hso hcd hpl hlod
          have HCALL := Lib.hid hcall; clear hcall; have HMX := Lib.hid hmx; clear hmx; have HI' := Lib.hid hi'; clear hi'; have HM' := Lib.hid hm'; clear hm'; have HBL := Lib.hid hbl; clear hbl; have HCR := Lib.hid hcr; clear hcr; have HO := Lib.hid ho; clear ho; have HDJ := Lib.hid hdj; clear hdj; have HMEM := Lib.hid hmem; clear hmem; have HMJ := Lib.hid hmj; clear hmj; have HI1 := Lib.hid hi1; clear hi1; have HIN := Lib.hid hin; clear hin; have HSO := Lib.hid hso; clear hso; have HCD := Lib.hid hcd; clear hcd; have HMD := Lib.hid hmd; clear hmd; have HSUBR := Lib.hid hsubr; clear hsubr; have HGN := Lib.hid hgn; clear hgn; have HGO := Lib.hid hgo; clear hgo; have HBOX := Lib.hid hbox; clear hbox; have HPL1 := Lib.hid hpl1; clear hpl1; have HNL := Lib.hid hnl; clear hnl; have HD1 := Lib.hid hd1; clear hd1; have HLOD := Lib.hid hlod; clear hlod
          go_wp2_with fail
          go_region_law (first
            | (go_simp; go_at_call 114; (with_reducible refine HCALL.out.mono ?_); rintro e w5 ⟨x2, xa2, xc2, ds2, ms2, rfl, hl2, hx2, hmx2, hi2, hm2, hc2', ho2', hb2, hb2'⟩; have hgk : w5.heap[g]? = wr.heap[g]? := (ho2'.block g hgw (by intro hn; rcases List.mem_cons.1 hn with h1 | h1; exact hgp h1; exact HGN.out h1)); have hqk : w5.heap[w.heap.size]? = wr.heap[w.heap.size]? := (ho2'.block _ (by simp; omega) (HBOX.out _ (.inl rfl))); have d0 := (World.cell?_of_block (a := ⟨g, j * 5, none⟩) hgk).trans c0; have d1 := (World.cell?_of_block (a := ⟨g, j * 5 + 1, none⟩) hgk).trans c1; have d2 := (World.cell?_of_block (a := ⟨g, j * 5 + 2, none⟩) hgk).trans c2; have d3 := (World.cell?_of_block (a := ⟨g, j * 5 + 3, none⟩) hgk).trans c3; have d4 := (World.cell?_of_block (a := ⟨g, j * 5 + 4, none⟩) hgk).trans c4; have k0 := (World.frozen?_of_block (a := ⟨g, j * 5, none⟩) hgk).trans f0; have k1' := (World.frozen?_of_block (a := ⟨g, j * 5 + 1, none⟩) hgk).trans f1; have k2' := (World.frozen?_of_block (a := ⟨g, j * 5 + 2, none⟩) hgk).trans f2; have k3' := (World.frozen?_of_block (a := ⟨g, j * 5 + 3, none⟩) hgk).trans f3; have k4' := (World.frozen?_of_block (a := ⟨g, j * 5 + 4, none⟩) hgk).trans f4; have q4c := (World.cell?_of_block (a := ⟨w.heap.size, 4, none⟩) hqk).trans q4; have HX2 := Lib.hid hx2; have HMX2 := Lib.hid hmx2; have HI2 := Lib.hid hi2; have HM2' := Lib.hid hm2; have HC2' := Lib.hid hc2'; have HO2' := Lib.hid ho2'; have HB2 := Lib.hid hb2; have HB2' := Lib.hid hb2'; have HL2 := Lib.hid hl2; clear hx2 hmx2 hi2 hm2 hc2' ho2' hb2 hb2' hl2))
          all_goals
            obtain ⟨hfin, hfb⟩ := M.Mine.mixElem HMD.out hjn (k1 := k1) (n1 := n1) (s1 := s1) HMJ.out HM2'.out HL2.out HO2'.out hpl HB2.out HB2'.out
            have hO5 : Only (pb :: (M.sl (some ⟨g, 0, none⟩) cap 5 27 ms).blocks) w w5 := HO.out.thenN (c := w5) ((Only.refl _ wr).drewN 1 |>.thenN HO2'.out (fun x hx => .inl hx)) (fun x hx => by
              rcases List.mem_cons.1 hx with h1 | h1
              · exact .inl (by simp [h1])
              · rcases HBL.out x (HSUBR.out x h1) with h2 | h2
                · exact .inl (List.mem_cons_of_mem _ h2)
                · exact .inr (by omega))
            have hO6 := setCells_Only g (List.mem_cons_of_mem pb HGO.out) (synM 27 k1 n1 s1 xa2 xc2 x2 a1 cap1 ms2).cells w5 (j * 5) hO5
            have hz5 := HO2'.out.size
            rw [World.size_drew] at hz5
            have hcF : Cur pb ca cc l (setCells w5 g (j * 5) (synM 27 k1 n1 s1 xa2 xc2 x2 a1 cap1 ms2).cells) := HC2'.out.belowB (B := lo) ((setCells_Only g (bs := [g]) (by simp) _ _ _ (Only.refl _ w5)).below (by omega) (by simp; omega)) hpl
            have hqF : SBox w.heap.size 1 n s (.slice la L.length lc) (.slice (some ⟨g, 0, none⟩) ms.length cap) (setCells w5 g (j * 5) (synM 27 k1 n1 s1 xa2 xc2 x2 a1 cap1 ms2).cells) := (SBox.of ⟨q0, q1, q2, q3, q4, e0, e1, e2, e3, e4⟩ (HO2'.out.block _ (by simp; omega) (HBOX.out _ (.inl rfl)))).of (setCells_other g _ (by omega) _ _ _)
            have hrF : SBox (w.heap.size + 1) 0 0 ⟨#[]⟩ (.slice none 0 0) (.slice none 0 0) (setCells w5 g (j * 5) (synM 27 k1 n1 s1 xa2 xc2 x2 a1 cap1 ms2).cells) := (SBox.of ⟨r0, r1, r2, r3, r4, g0, g1, g2, g3, g4⟩ (HO2'.out.block _ (by simp; omega) (HBOX.out _ (.inr rfl)))).of (setCells_other g _ (by omega) _ _ _)
            have hmF : MixL (ds.take (j + 1)) (pre ++ [.mk k1 n1 s1 x2 ds2]) := by
              rw [take_snoc HDJ.out]; exact MixL.snoc (d := .mk k1 n1 s1 x1 ds1) (d' := .mk k1 n1 s1 x2 ds2) ⟨rfl, rfl, rfl, HX2.out, HMX2.out⟩ HMX.out
            have hiF : Syn.IsL 27 ((pre ++ [.mk k1 n1 s1 x2 ds2]) ++ ds.drop (j + 1)) (ns.set j (synM 27 k1 n1 s1 xa2 xc2 x2 a1 cap1 ms2)) := by
              have h := HI'.out.set j (d := .mk k1 n1 s1 x2 ds2) (m := synM 27 k1 n1 s1 xa2 xc2 x2 a1 cap1 ms2) ⟨xa2, xc2, a1, cap1, ms2, rfl, HI2.out⟩
              rwa [List.set_append, if_neg (by have := HPL1.out; omega), HPL1.out, Nat.sub_self, List.drop_eq_getElem_cons hjd, List.set_cons_zero, ← List.singleton_append, ← List.append_assoc] at h
            have hbF : ∀ b ∈ (M.sl (some ⟨g, 0, none⟩) cap 5 27 (ns.set j (synM 27 k1 n1 s1 xa2 xc2 x2 a1 cap1 ms2))).blocks, b ∈ (M.sl (some ⟨g, 0, none⟩) cap 5 27 ms).blocks ∨ w.heap.size + 1 + 1 ≤ b := fun b hb => by
              rcases hfb b hb with h1 | h1
              · exact HBL.out b h1
              · rw [World.size_drew] at h1; exact .inr (by omega)
            have hnF : (ns.set j (synM 27 k1 n1 s1 xa2 xc2 x2 a1 cap1 ms2)).length = ms.length := by rw [List.length_set]; exact HNL.out
            have hzF : w.heap.size + 1 + 1 ≤ (setCells w5 g (j * 5) (synM 27 k1 n1 s1 xa2 xc2 x2 a1 cap1 ms2).cells).heap.size := by rw [setCells_size]; omega
            rw [synM_cells, setCells5] at hfin hO6 hcF hqF hrF hzF
            have HFIN := Lib.hid hfin; clear hfin; have HFB := Lib.hid hfb; clear hfb; have HO5 := Lib.hid hO5; clear hO5; have HO6 := Lib.hid hO6; clear hO6; have HCF := Lib.hid hcF; clear hcF; have HQF := Lib.hid hqF; clear hqF; have HRF := Lib.hid hrF; clear hrF; have HMF := Lib.hid hmF; clear hmF; have HIF := Lib.hid hiF; clear hiF; have HBF := Lib.hid hbF; clear hbF; have HNF := Lib.hid hnF; clear hnF; have HZF := Lib.hid hzF; clear hzF
            go_wp2_with fail
            go_roundw
            case rel => exact ⟨j + 1, ns.set j (synM 27 k1 n1 s1 xa2 xc2 x2 a1 cap1 ms2), pre ++ [.mk k1 n1 s1 x2 ds2], by omega, by go_num, HNF.out, HMF.out, HIF.out, HFIN.out, HBF.out, HCF.out, HQF.out, HRF.out, HO6.out, HZF.out⟩
            case measure => simp [intOf]; omega
        · have hj2 : j = ms.length := by omega
          subst hj2
          have hdl := HLN.out
          rw [hdl, List.take_length] at hmx
          rw [hdl, List.drop_length, List.append_nil] at hi'
          clear hdl
          have hxnew : ∀ b ∈ addrBlocks la, b ∈ addrBlocks xa ∨ w.heap.size + 1 + 1 ≤ b := HXN.out
          have hret : RetMix 1 n s x ds xa a cap ms pb ca cc l lo w (.returned (.agg #[.int .i64 1, .int .i64 n, .string s, .slice la L.length lc, .slice a ms.length cap])) (setCells wr (w.heap.size + 1) 0 [.int .i64 1, .int .i64 n, .string s, .slice la L.length lc, .slice a ms.length cap]) := by
            refine ⟨L, la, lc, pre, ns, by rw [hnl], hnl, HXO.out, hmx, hi', ?_, ?_, ?_, ?_, ?_⟩
            · exact hm'.keep2 (fun b hb => by
                refine setCells_other (w.heap.size + 1) b (fun he => ?_) _ wr 0
                subst he
                rw [SynOwn_blocks] at hb
                rcases List.mem_append.1 hb with h1 | h1
                · rcases hxnew _ h1 with h2 | h2
                  · have := (HM.out.lt (w.heap.size + 1) (by rw [SynOwn_blocks, List.mem_append]; exact .inl h2)).2; omega
                  · omega
                · rcases hbl _ h1 with h2 | h2
                  · have := HBLK.out _ h2; omega
                  · omega)
            · exact hcr.belowB (B := w.heap.size) ((setCells_Only (w.heap.size + 1) (bs := [w.heap.size + 1]) (by simp) [.int .i64 1, .int .i64 n, .string s, .slice la L.length lc, .slice a ms.length cap] wr 0 (Only.refl _ wr)).below (by omega) (by simp)) hpw
            · exact ho.thenN (setCells_Only (w.heap.size + 1) (bs := [w.heap.size + 1]) (by simp) [.int .i64 1, .int .i64 n, .string s, .slice la L.length lc, .slice a ms.length cap] wr 0 (Only.refl _ wr)) (fun x hx => by simp at hx; subst hx; exact .inr (by omega))
            · exact fun b hb => by
                rcases hbl b hb with h1 | h1
                · exact .inl h1
                · exact .inr (by omega)
            · exact fun b hb => by
                rcases hxnew b hb with h1 | h1
                · exact .inl h1
                · exact .inr (by omega)
          simp only [setCells, Nat.zero_add, Nat.reduceAdd] at hret
          clear hxnew
          have HRET := Lib.hid hret; clear hret; have HMX := Lib.hid hmx; clear hmx; have HI' := Lib.hid hi'; clear hi'; have HM' := Lib.hid hm'; clear hm'; have HBL := Lib.hid hbl; clear hbl; have HCR := Lib.hid hcr; clear hcr; have HO := Lib.hid ho; clear ho; have HNL := Lib.hid hnl; clear hnl
          go_wp2_with fail
          refine bodyPost_ret (v := .agg #[.int .i64 1, .int .i64 n, .string s, .slice la L.length lc, .slice a ms.length cap]) (by simp [results, Try.results114, go_sem, q0, q1, q2, q3, q4, r0, r1, r2, r3, r4]) rfl ?_
          exact HRET.out
  · have hkk : (k == 1) = false := by simp [hk]
    have hq1 : SBox w.heap.size k n s (.slice xa x.length xc) (.slice a ms.length cap) ((w.alloc (.cells #[.int .i64 k, .int .i64 n, .string s, .slice xa x.length xc, .slice a ms.length cap] 27)).alloc (.cells #[.int .i64 0, .int .i64 0, .string ⟨#[]⟩, .slice none 0 0, .slice none 0 0] 27)) := (SBox.new k n s _ _ w).of (heapNew _ _ _ (by simp))
    have hr1 : SBox (w.heap.size + 1) 0 0 ⟨#[]⟩ (.slice none 0 0) (.slice none 0 0) ((w.alloc (.cells #[.int .i64 k, .int .i64 n, .string s, .slice xa x.length xc, .slice a ms.length cap] 27)).alloc (.cells #[.int .i64 0, .int .i64 0, .string ⟨#[]⟩, .slice none 0 0, .slice none 0 0] 27)) := by
      have := SBox.new 0 0 ⟨#[]⟩ (.slice none 0 0) (.slice none 0 0) (w.alloc (.cells #[.int .i64 k, .int .i64 n, .string s, .slice xa x.length xc, .slice a ms.length cap] 27))
      rw [World.size_alloc] at this
      exact this
    have ho1' : Only [pb] w ((w.alloc (.cells #[.int .i64 k, .int .i64 n, .string s, .slice xa x.length xc, .slice a ms.length cap] 27)).alloc (.cells #[.int .i64 0, .int .i64 0, .string ⟨#[]⟩, .slice none 0 0, .slice none 0 0] 27)) := (Only.refl _ w).alloc _ |>.alloc _
    have hm1 := hm.only ho1' (fun b hb hn => by have := (hm.lt b hb).1; simp at hn; omega)
    have hc1 := hc.below (w' := ((w.alloc (.cells #[.int .i64 k, .int .i64 n, .string s, .slice xa x.length xc, .slice a ms.length cap] 27)).alloc (.cells #[.int .i64 0, .int .i64 0, .string ⟨#[]⟩, .slice none 0 0, .slice none 0 0] 27))) (by (repeat (first | with_reducible assumption | with_reducible exact Below.refl _ _ | with_reducible refine Below.drew ?_ | with_reducible refine belowDrewN ?_ _ | ((with_reducible refine Below.setCell ?_ ?_ _); rotate_left; focus (first | omega | (simp; done) | (simp; omega))) | ((with_reducible refine Below.alloc ?_ ?_ _); rotate_left; focus (first | omega | (simp; done) | (simp; omega))))))
    have IH := Lib.hid ih; clear ih; have HI := Lib.hid hi; clear hi; have HM := Lib.hid hm; clear hm; have HC := Lib.hid hc; clear hc; have HLN := Lib.hid hln; clear hln; have HBLK := Lib.hid hblk; clear hblk; have HQ1 := Lib.hid hq1; clear hq1; have HR1 := Lib.hid hr1; clear hr1; have HO1' := Lib.hid ho1'; clear ho1'; have HM1 := Lib.hid hm1; clear hm1; have HC1 := Lib.hid hc1; clear hc1; have HK := Lib.hid hk; clear hk
    go_enter Try.func114, Try.ntmps114
    go_wp2_with fail
    go_loopw [19] (fun i wr => ∃ (j : Nat) (ns : List M) (pre : List Syn), j ≤ ms.length ∧ i = .int .i64 j ∧ ns.length = ms.length ∧ MixL (ds.take j) pre ∧ Syn.IsL 27 (pre ++ ds.drop j) ns ∧ (SynOwn 27 xa xc x a cap ns).Mine wr lo ∧
      (∀ b ∈ (M.sl a cap 5 27 ns).blocks, b ∈ (M.sl a cap 5 27 ms).blocks ∨ w.heap.size + 1 + 1 ≤ b) ∧ Cur pb ca cc l wr ∧ SBox w.heap.size k n s (.slice xa x.length xc) (.slice a ms.length cap) wr ∧ SBox (w.heap.size + 1) 0 0 ⟨#[]⟩ (.slice none 0 0) (.slice none 0 0) wr ∧ Only (pb :: (M.sl a cap 5 27 ms).blocks) w wr ∧ w.heap.size + 1 + 1 ≤ wr.heap.size) (fun i _ => ms.length - (intOf i).toNat)
    case atStart => exact ⟨0, ms, [], Nat.zero_le _, rfl, rfl, rfl, HI.out, HM1.out, fun b hb => .inl hb, HC1.out, HQ1.out, HR1.out, (HO1'.out).mono (fun x hx => by simp at hx; simp [hx]), HR1.out.lt⟩
    case round =>
      (try clear q0 q1 q2 q3 q4 e0 e1 e2 e3 e4)
      (try clear r0 r1 r2 r3 r4 g0 g1 g2 g3 g4)
      obtain ⟨j, ns, pre, hj, rfl, hnl, hmx, hi', hm', hbl, hcr, hq, hr, ho, hsz⟩ := hrel
      obtain ⟨q0, q1, q2, q3, q4, e0, e1, e2, e3, e4⟩ := hq
      obtain ⟨r0, r1, r2, r3, r4, g0, g1, g2, g3, g4⟩ := hr
      by_cases hlt : j < ms.length
      · have hjd : j < ds.length := by have := HLN.out; omega
        have hjn : j < ns.length := by omega
        have hpl1 := hmx.length
        rw [List.length_take, Nat.min_eq_left (by omega)] at hpl1
        have hdj : ds[j]? = some ds[j] := List.getElem?_eq_getElem hjd
        have hmem : ds[j] ∈ ds := List.getElem_mem hjd
        have hg := hi'.get j (by rw [List.length_append, List.length_drop]; omega) hjn
        have hge : (pre ++ ds.drop j)[j]'(by rw [List.length_append, List.length_drop]; omega) = ds[j] := by
          rw [List.getElem_append_right (by omega)]
          simp [hpl1]
        rw [hge] at hg
        generalize hd1 : ds[j] = d1 at *
        obtain ⟨k1, n1, s1, x1, ds1⟩ := d1
        obtain ⟨xa1, xc1, a1, cap1, ms1, hmj, hi1⟩ := hg
        obtain ⟨g, rfl, hlg, hgw⟩ := (SynOwn_ms hm').addr (by omega)
        obtain ⟨⟨v0, t0⟩, f0⟩ := (SynOwn_ms hm').row (j * 5) (by omega)
        obtain ⟨⟨v1, t1⟩, f1⟩ := (SynOwn_ms hm').row (j * 5 + 1) (by omega)
        obtain ⟨⟨v2, t2⟩, f2⟩ := (SynOwn_ms hm').row (j * 5 + 2) (by omega)
        obtain ⟨⟨v3, t3⟩, f3⟩ := (SynOwn_ms hm').row (j * 5 + 3) (by omega)
        obtain ⟨⟨v4, t4⟩, f4⟩ := (SynOwn_ms hm').row (j * 5 + 4) (by omega)
        clear t0 t1 t2 t3 t4
        obtain ⟨bb, oo, hg0, hel⟩ := (SynOwn_ms hm').in_.elem (by omega)
        obtain ⟨rfl, rfl⟩ : g = bb ∧ oo = 0 := by simp only [Option.some.injEq, Addr.mk.injEq, and_true] at hg0; exact ⟨hg0.1, hg0.2.symm⟩
        have c0 := hel j hjn 0 (.int .i64 k1) (by rw [hmj]; rfl)
        have c1 := hel j hjn 1 (.int .i64 n1) (by rw [hmj]; rfl)
        have c2 := hel j hjn 2 (.string s1) (by rw [hmj]; rfl)
        have c3 := hel j hjn 3 (.slice xa1 (intM x1).length xc1) (by rw [hmj]; rfl)
        have c4 := hel j hjn 4 (.slice a1 ms1.length cap1) (by rw [hmj]; rfl)
        simp only [Nat.zero_add, Nat.add_zero, intM_length] at c0 c1 c2 c3 c4
        clear hel hg0
        have hin := (SynOwn_ms hm').inner j hjn
        rw [hmj] at hin
        have hso : (SynOwn 27 xa1 xc1 x1 a1 cap1 ms1).Mine wr.drew lo := (synM_own (k := k1) (n := n1) (s := s1) hin).keep (fun b _ _ => rfl)
        have hcd : Cur pb ca cc l wr.drew := hcr.below ((Below.refl _ _).drew)
        have hmd : (SynOwn 27 xa xc x (some ⟨g, 0, none⟩) cap ns).Mine wr.drew lo := hm'.keep (fun b _ _ => rfl)
        have hsubr : ∀ b ∈ (M.sl a1 cap1 5 27 ms1).blocks, b ∈ (M.sl (some ⟨g, 0, none⟩) cap 5 27 ns).blocks := fun b hb => by
          simp only [M.blocks]
          rw [List.mem_append]
          exact .inr (mem_blocksL.2 ⟨_, List.getElem_mem hjn, by rw [hmj]; simp only [M.blocks, M.blocksL, List.append_nil, List.nil_append] at hb ⊢; simp [hb]⟩)
        have hgn : g ∉ (M.sl a1 cap1 5 27 ms1).blocks := fun hb => by
          have hd := (SynOwn_ms hm').dup
          simp only [M.blocks, addrBlocks] at hd
          exact (List.nodup_append.1 hd).2.2 g (by simp) g (mem_blocksL.2 ⟨_, List.getElem_mem hjn, by rw [hmj]; simp only [M.blocks, M.blocksL, List.append_nil, List.nil_append] at hb ⊢; simp [hb]⟩) rfl
        have hgo : g ∈ (M.sl (some ⟨g, 0, none⟩) cap 5 27 ms).blocks := by simp [M.blocks, addrBlocks]
        have hgp : g ≠ pb := by omega
        have hgW : g < w.heap.size := HBLK.out g hgo
        have hbox : ∀ b, (b = w.heap.size ∨ b = w.heap.size + 1) → b ∉ pb :: (M.sl a1 cap1 5 27 ms1).blocks := fun b hb hn => by
          rcases List.mem_cons.1 hn with h1 | h1
          · omega
          · rcases hbl b (hsubr b h1) with h2 | h2
            · have := HBLK.out b h2; omega
            · omega
        have hlod : lo ≤ wr.drew.heap.size := by rw [World.size_drew]; omega
        clear hge
        have hcall := IH.out k1 n1 s1 x1 ds1 hmem k1 n1 s1 x1 xa1 xc1 a1 cap1 ms1 pb ca cc l lo wr.drew hi1 hso hcd hpl hlod
        have HCALL := Lib.hid hcall; clear hcall; have HMX := Lib.hid hmx; clear hmx; have HI' := Lib.hid hi'; clear hi'; have HM' := Lib.hid hm'; clear hm'; have HBL := Lib.hid hbl; clear hbl; have HCR := Lib.hid hcr; clear hcr; have HO := Lib.hid ho; clear ho; have HDJ := Lib.hid hdj; clear hdj; have HMEM := Lib.hid hmem; clear hmem; have HMJ := Lib.hid hmj; clear hmj; have HI1 := Lib.hid hi1; clear hi1; have HIN := Lib.hid hin; clear hin; have HSO := Lib.hid hso; clear hso; have HCD := Lib.hid hcd; clear hcd; have HMD := Lib.hid hmd; clear hmd; have HSUBR := Lib.hid hsubr; clear hsubr; have HGN := Lib.hid hgn; clear hgn; have HGO := Lib.hid hgo; clear hgo; have HBOX := Lib.hid hbox; clear hbox; have HPL1 := Lib.hid hpl1; clear hpl1; have HNL := Lib.hid hnl; clear hnl; have HD1 := Lib.hid hd1; clear hd1; have HLOD := Lib.hid hlod; clear hlod
        go_wp2_with fail
        go_region_law (first
          | (go_simp; go_at_call 114; (with_reducible refine HCALL.out.mono ?_); rintro e w5 ⟨x2, xa2, xc2, ds2, ms2, rfl, hl2, hx2, hmx2, hi2, hm2, hc2', ho2', hb2, hb2'⟩; have hgk : w5.heap[g]? = wr.heap[g]? := (ho2'.block g hgw (by intro hn; rcases List.mem_cons.1 hn with h1 | h1; exact hgp h1; exact HGN.out h1)); have hqk : w5.heap[w.heap.size]? = wr.heap[w.heap.size]? := (ho2'.block _ (by simp; omega) (HBOX.out _ (.inl rfl))); have d0 := (World.cell?_of_block (a := ⟨g, j * 5, none⟩) hgk).trans c0; have d1 := (World.cell?_of_block (a := ⟨g, j * 5 + 1, none⟩) hgk).trans c1; have d2 := (World.cell?_of_block (a := ⟨g, j * 5 + 2, none⟩) hgk).trans c2; have d3 := (World.cell?_of_block (a := ⟨g, j * 5 + 3, none⟩) hgk).trans c3; have d4 := (World.cell?_of_block (a := ⟨g, j * 5 + 4, none⟩) hgk).trans c4; have k0 := (World.frozen?_of_block (a := ⟨g, j * 5, none⟩) hgk).trans f0; have k1' := (World.frozen?_of_block (a := ⟨g, j * 5 + 1, none⟩) hgk).trans f1; have k2' := (World.frozen?_of_block (a := ⟨g, j * 5 + 2, none⟩) hgk).trans f2; have k3' := (World.frozen?_of_block (a := ⟨g, j * 5 + 3, none⟩) hgk).trans f3; have k4' := (World.frozen?_of_block (a := ⟨g, j * 5 + 4, none⟩) hgk).trans f4; have q4c := (World.cell?_of_block (a := ⟨w.heap.size, 4, none⟩) hqk).trans q4; have HX2 := Lib.hid hx2; have HMX2 := Lib.hid hmx2; have HI2 := Lib.hid hi2; have HM2' := Lib.hid hm2; have HC2' := Lib.hid hc2'; have HO2' := Lib.hid ho2'; have HB2 := Lib.hid hb2; have HB2' := Lib.hid hb2'; have HL2 := Lib.hid hl2; clear hx2 hmx2 hi2 hm2 hc2' ho2' hb2 hb2' hl2))
        all_goals
          obtain ⟨hfin, hfb⟩ := M.Mine.mixElem HMD.out hjn (k1 := k1) (n1 := n1) (s1 := s1) HMJ.out HM2'.out HL2.out HO2'.out hpl HB2.out HB2'.out
          have hO5 : Only (pb :: (M.sl (some ⟨g, 0, none⟩) cap 5 27 ms).blocks) w w5 := HO.out.thenN (c := w5) ((Only.refl _ wr).drewN 1 |>.thenN HO2'.out (fun x hx => .inl hx)) (fun x hx => by
            rcases List.mem_cons.1 hx with h1 | h1
            · exact .inl (by simp [h1])
            · rcases HBL.out x (HSUBR.out x h1) with h2 | h2
              · exact .inl (List.mem_cons_of_mem _ h2)
              · exact .inr (by omega))
          have hO6 := setCells_Only g (List.mem_cons_of_mem pb HGO.out) (synM 27 k1 n1 s1 xa2 xc2 x2 a1 cap1 ms2).cells w5 (j * 5) hO5
          have hz5 := HO2'.out.size
          rw [World.size_drew] at hz5
          have hcF : Cur pb ca cc l (setCells w5 g (j * 5) (synM 27 k1 n1 s1 xa2 xc2 x2 a1 cap1 ms2).cells) := HC2'.out.belowB (B := lo) ((setCells_Only g (bs := [g]) (by simp) _ _ _ (Only.refl _ w5)).below (by omega) (by simp; omega)) hpl
          have hqF : SBox w.heap.size k n s (.slice xa x.length xc) (.slice (some ⟨g, 0, none⟩) ms.length cap) (setCells w5 g (j * 5) (synM 27 k1 n1 s1 xa2 xc2 x2 a1 cap1 ms2).cells) := (SBox.of ⟨q0, q1, q2, q3, q4, e0, e1, e2, e3, e4⟩ (HO2'.out.block _ (by simp; omega) (HBOX.out _ (.inl rfl)))).of (setCells_other g _ (by omega) _ _ _)
          have hrF : SBox (w.heap.size + 1) 0 0 ⟨#[]⟩ (.slice none 0 0) (.slice none 0 0) (setCells w5 g (j * 5) (synM 27 k1 n1 s1 xa2 xc2 x2 a1 cap1 ms2).cells) := (SBox.of ⟨r0, r1, r2, r3, r4, g0, g1, g2, g3, g4⟩ (HO2'.out.block _ (by simp; omega) (HBOX.out _ (.inr rfl)))).of (setCells_other g _ (by omega) _ _ _)
          have hmF : MixL (ds.take (j + 1)) (pre ++ [.mk k1 n1 s1 x2 ds2]) := by
            rw [take_snoc HDJ.out]; exact MixL.snoc (d := .mk k1 n1 s1 x1 ds1) (d' := .mk k1 n1 s1 x2 ds2) ⟨rfl, rfl, rfl, HX2.out, HMX2.out⟩ HMX.out
          have hiF : Syn.IsL 27 ((pre ++ [.mk k1 n1 s1 x2 ds2]) ++ ds.drop (j + 1)) (ns.set j (synM 27 k1 n1 s1 xa2 xc2 x2 a1 cap1 ms2)) := by
            have h := HI'.out.set j (d := .mk k1 n1 s1 x2 ds2) (m := synM 27 k1 n1 s1 xa2 xc2 x2 a1 cap1 ms2) ⟨xa2, xc2, a1, cap1, ms2, rfl, HI2.out⟩
            rwa [List.set_append, if_neg (by have := HPL1.out; omega), HPL1.out, Nat.sub_self, List.drop_eq_getElem_cons hjd, List.set_cons_zero, ← List.singleton_append, ← List.append_assoc] at h
          have hbF : ∀ b ∈ (M.sl (some ⟨g, 0, none⟩) cap 5 27 (ns.set j (synM 27 k1 n1 s1 xa2 xc2 x2 a1 cap1 ms2))).blocks, b ∈ (M.sl (some ⟨g, 0, none⟩) cap 5 27 ms).blocks ∨ w.heap.size + 1 + 1 ≤ b := fun b hb => by
            rcases hfb b hb with h1 | h1
            · exact HBL.out b h1
            · rw [World.size_drew] at h1; exact .inr (by omega)
          have hnF : (ns.set j (synM 27 k1 n1 s1 xa2 xc2 x2 a1 cap1 ms2)).length = ms.length := by rw [List.length_set]; exact HNL.out
          have hzF : w.heap.size + 1 + 1 ≤ (setCells w5 g (j * 5) (synM 27 k1 n1 s1 xa2 xc2 x2 a1 cap1 ms2).cells).heap.size := by rw [setCells_size]; omega
          rw [synM_cells, setCells5] at hfin hO6 hcF hqF hrF hzF
          have HFIN := Lib.hid hfin; clear hfin; have HFB := Lib.hid hfb; clear hfb; have HO5 := Lib.hid hO5; clear hO5; have HO6 := Lib.hid hO6; clear hO6; have HCF := Lib.hid hcF; clear hcF; have HQF := Lib.hid hqF; clear hqF; have HRF := Lib.hid hrF; clear hrF; have HMF := Lib.hid hmF; clear hmF; have HIF := Lib.hid hiF; clear hiF; have HBF := Lib.hid hbF; clear hbF; have HNF := Lib.hid hnF; clear hnF; have HZF := Lib.hid hzF; clear hzF
          go_wp2_with fail
          go_roundw
          case rel => exact ⟨j + 1, ns.set j (synM 27 k1 n1 s1 xa2 xc2 x2 a1 cap1 ms2), pre ++ [.mk k1 n1 s1 x2 ds2], by omega, by go_num, HNF.out, HMF.out, HIF.out, HFIN.out, HBF.out, HCF.out, HQF.out, HRF.out, HO6.out, HZF.out⟩
          case measure => simp [intOf]; omega
      · have hj2 : j = ms.length := by omega
        subst hj2
        have hdl := HLN.out
        rw [hdl, List.take_length] at hmx
        rw [hdl, List.drop_length, List.append_nil] at hi'
        clear hdl
        have hxnew : ∀ b ∈ addrBlocks xa, b ∈ addrBlocks xa ∨ w.heap.size + 1 + 1 ≤ b := (fun b hb => .inl hb)
        have hret : RetMix k n s x ds xa a cap ms pb ca cc l lo w (.returned (.agg #[.int .i64 k, .int .i64 n, .string s, .slice xa x.length xc, .slice a ms.length cap])) (setCells wr (w.heap.size + 1) 0 [.int .i64 k, .int .i64 n, .string s, .slice xa x.length xc, .slice a ms.length cap]) := by
          refine ⟨x, xa, xc, pre, ns, by rw [hnl], hnl, (.inl rfl), hmx, hi', ?_, ?_, ?_, ?_, ?_⟩
          · exact hm'.keep2 (fun b hb => by
              refine setCells_other (w.heap.size + 1) b (fun he => ?_) _ wr 0
              subst he
              rw [SynOwn_blocks] at hb
              rcases List.mem_append.1 hb with h1 | h1
              · rcases hxnew _ h1 with h2 | h2
                · have := (HM.out.lt (w.heap.size + 1) (by rw [SynOwn_blocks, List.mem_append]; exact .inl h2)).2; omega
                · omega
              · rcases hbl _ h1 with h2 | h2
                · have := HBLK.out _ h2; omega
                · omega)
          · exact hcr.belowB (B := w.heap.size) ((setCells_Only (w.heap.size + 1) (bs := [w.heap.size + 1]) (by simp) [.int .i64 k, .int .i64 n, .string s, .slice xa x.length xc, .slice a ms.length cap] wr 0 (Only.refl _ wr)).below (by omega) (by simp)) hpw
          · exact ho.thenN (setCells_Only (w.heap.size + 1) (bs := [w.heap.size + 1]) (by simp) [.int .i64 k, .int .i64 n, .string s, .slice xa x.length xc, .slice a ms.length cap] wr 0 (Only.refl _ wr)) (fun x hx => by simp at hx; subst hx; exact .inr (by omega))
          · exact fun b hb => by
              rcases hbl b hb with h1 | h1
              · exact .inl h1
              · exact .inr (by omega)
          · exact fun b hb => by
              rcases hxnew b hb with h1 | h1
              · exact .inl h1
              · exact .inr (by omega)
        simp only [setCells, Nat.zero_add, Nat.reduceAdd] at hret
        clear hxnew
        have HRET := Lib.hid hret; clear hret; have HMX := Lib.hid hmx; clear hmx; have HI' := Lib.hid hi'; clear hi'; have HM' := Lib.hid hm'; clear hm'; have HBL := Lib.hid hbl; clear hbl; have HCR := Lib.hid hcr; clear hcr; have HO := Lib.hid ho; clear ho; have HNL := Lib.hid hnl; clear hnl
        go_wp2_with fail
        refine bodyPost_ret (v := .agg #[.int .i64 k, .int .i64 n, .string s, .slice xa x.length xc, .slice a ms.length cap]) (by simp [results, Try.results114, go_sem, q0, q1, q2, q3, q4, r0, r1, r2, r3, r4]) rfl ?_
        exact HRET.out
end Go.Proofs.Ytghbnehocggnnaa

/-
  Lists of texts that a call builds. No condition.
-/
set_option linter.unusedVariables false
set_option linter.unusedSimpArgs false
set_option maxRecDepth 100000
namespace Go.Proofs.Ytghbnehocggnnaa
open Go.RowKit

theorem infoS : (Try.prog.info? 9).map (fun i => (i.zero, i.size, i.bytes)) = some (some (.string ⟨#[]⟩), 1, 16) := by kernel_rfl
theorem strM_snoc (l : List ByteArray) (n : ByteArray) : strM l ++ [.c (.string n)] = strM (l ++ [n]) := by simp [strM]
theorem Strs.nil (w : World) (lo : Nat) : (M.sl none 0 1 9 (strM [])).Mine w lo := M.Mine.nil _ _ _ _ (by decide)
/-- the empty literal '[]string{}' -/
theorem Strs.lit (w : World) (lo : Nat) (h : lo ≤ w.heap.size) : (M.sl (some ⟨w.heap.size, 0, none⟩) 0 1 9 (strM [])).Mine (w.alloc (.cells #[] 9)) lo :=
  M.Mine.new rfl h rfl (by decide) (by simp [strM]) (by simp [maxLen]) ⟨trivial, by simp [strM, M.blocksL]⟩
/-- 'out = append(out, s)' -/
theorem wpStrs_push {P : Program} {wr w1 : World} {ops : Array Oper} {rest : List Oper} {o : Oper} {act : Act} {Q : Exit → Act → World → Prop} (hgd : o.guard = none) (s x : Operand) (t : TypeId)
    (ho : o.op = .call { callee := .builtin .append, args := #[s, x], argTypes := #[t, t] })
    (e : TypeId) (z : Value) (ht : P.underlying t = some (.slice e)) (hinfo : (P.info? e).map (fun i => (i.zero, i.size, i.bytes)) = some (some z, 1, 16)) (hzs : z.cells.size = 1)
    (lo : Nat) (a : Option Addr) (cap : Nat) (xs : List ByteArray) (hs : act.eval s = .slice a xs.length cap) (hrow : (M.sl a cap 1 e (strM xs)).Mine wr lo) (hlo : lo ≤ wr.heap.size) (hb : Below wr.heap.size wr w1)
    (n : ByteArray) (hx : act.eval x = .slice (some ⟨w1.heap.size, 0, none⟩) 1 1) (hB : xs.length ≤ 1000000000)
    (k : ∀ a' cap' w', (M.sl a' cap' 1 e (strM (xs ++ [n]))).Mine w' lo → Below lo w1 w' → w1.heap.size ≤ w'.heap.size → (∀ b, b < w1.heap.size → b ∉ addrBlocks a → w'.heap[b]? = w1.heap[b]?) →
      wpList P ops Q rest (act.put o.dst (.slice a' (xs ++ [n]).length cap')) w') : wpList P ops Q (o :: rest) act (w1.alloc (.cells #[.string n] e)) := by
  refine wpList_push hgd s x t ho e z 1 16 ht hinfo hzs (by decide) lo a cap (strM xs) (by rw [strM_length]; exact hs) hrow hlo hb #[.string n] (.c (.string n)) rfl rfl wr.heap.size (M.Mine.c rfl) (Nat.le_refl _) hx (by rw [strM_length]; unfold maxLen; omega) (by rw [strM_length]; omega) ?_
  intro a' cap' w' h1 h2 h3 h4
  rw [strM_snoc] at h1
  rw [strM_length]
  have := k a' cap' w' h1 h2 h3 h4
  simpa using this
end Go.Proofs.Ytghbnehocggnnaa

/-
  Walks: texts drawn. No condition.
-/
set_option linter.unusedVariables false
set_option linter.unusedSimpArgs false
set_option maxRecDepth 100000
namespace Go.Proofs.Ytghbnehocggnnaa
open Go.RowKit

/-- a short text drawn -/
def DrawnT (pb : Nat) (a : Option Addr) (cap : Nat) (l : List Int) (w : World) (e : Ending) (w' : World) : Prop :=
  ∃ x : ByteArray, e = .returned (.string x) ∧ x.size ≤ 100 ∧ Cur pb a cap l w' ∧ OnlyIn pb (pb + 1) w w'
def Texts (cs : Array Value) : Prop := ∀ v ∈ cs.toList, ∃ s : ByteArray, v = .string s ∧ s.size ≤ 100
theorem l01Pick_lit (cs : Array Value) (n : Nat) (pb : Nat) (a : Option Addr) (cap : Nat) (l : List Int) (w : World) (hc : Cur pb a cap l w) (hn : cs.size = n) (h0 : 0 < n) (h1 : n ≤ 1000) (ht : Texts cs) :
    Calls Try.prog 88 #[.pointer (some ⟨pb, 0, none⟩), .slice (some ⟨w.heap.size, 0, none⟩) n n] (w.alloc (.cells cs 9)) (DrawnT pb a cap l w) := by
  have hp := hc.lt
  have hcell : ∀ k, k < n → ∃ s : ByteArray, (w.alloc (.cells cs 9)).cell? ⟨w.heap.size, k, none⟩ = some (.string s) ∧ s.size ≤ 100 := by
    intro k hk
    obtain ⟨s, hs, hz⟩ := ht cs[k] (by simp)
    refine ⟨s, ?_, hz⟩
    rw [World.cell?_alloc_new]
    rw [← hs]
    simp
  have HC := Lib.hid hc; clear hc; have HCELL := Lib.hid hcell; clear hcell; have HT := Lib.hid ht; clear ht
  go_enter Try.func88, Try.ntmps88
  go_wp2_with fail
  refine (l01Below_calls n pb a cap l _ (HC.out.below (by (repeat (first | with_reducible assumption | with_reducible exact Below.refl _ _ | with_reducible refine Below.drew ?_ | with_reducible refine belowDrewN ?_ _ | ((with_reducible refine Below.setCell ?_ ?_ _); rotate_left; focus (first | omega | (simp; done) | (simp; omega))) | ((with_reducible refine Below.alloc ?_ ?_ _); rotate_left; focus (first | omega | (simp; done) | (simp; omega))))))) (by omega) (by omega)).mono ?_
  rintro e w1 ⟨x, rfl, hx0, hx1, hc1, ho1⟩
  obtain ⟨k, rfl⟩ := Int.eq_ofNat_of_zero_le hx0
  obtain ⟨s, hs, hz⟩ := HCELL.out k (by omega)
  have hkl : k < n := by omega
  have hs1 : w1.cell? ⟨w.heap.size, k, none⟩ = some (.string s) := (World.cell?_of_block (ho1.block w.heap.size (by simp) (.inr (by omega)))).trans hs
  have hoo : OnlyIn pb (pb + 1) w w1 := ((OnlyIn.refl _ _ _).new _).trans ho1
  have HC1 := Lib.hid hc1; clear hc1; have HO1 := Lib.hid ho1; clear ho1; have HOO := Lib.hid hoo; clear hoo; have HS := Lib.hid hs; clear hs
  go_wp2_with fail
  go_ret
  exact ⟨s, rfl, hz, HC1.out, HOO.out⟩
/-- a number of the machine drawn -/
def DrawnN (m : Int) (pb : Nat) (a : Option Addr) (cap : Nat) (l : List Int) (w : World) (e : Ending) (w' : World) : Prop :=
  ∃ x : Int, e = .returned (.int .i64 x) ∧ I64 x ∧ Cur pb a cap l w' ∧ OnlyIn pb (pb + 1) w w'
def Nums (cs : Array Value) : Prop := ∀ v ∈ cs.toList, ∃ s : Int, v = .int .i64 s ∧ I64 s
theorem l01Int_lit (cs : Array Value) (n : Nat) (pb : Nat) (a : Option Addr) (cap : Nat) (l : List Int) (w : World) (hc : Cur pb a cap l w) (hn : cs.size = n) (h0 : 0 < n) (h1 : n ≤ 1000) (ht : Nums cs) :
    Calls Try.prog 102 #[.pointer (some ⟨pb, 0, none⟩), .slice (some ⟨w.heap.size, 0, none⟩) n n] (w.alloc (.cells cs 3)) (DrawnN 0 pb a cap l w) := by
  have hp := hc.lt
  have hcell : ∀ k, k < n → ∃ s : Int, (w.alloc (.cells cs 3)).cell? ⟨w.heap.size, k, none⟩ = some (.int .i64 s) ∧ I64 s := by
    intro k hk
    obtain ⟨s, hs, hz⟩ := ht cs[k] (by simp)
    refine ⟨s, ?_, hz⟩
    rw [World.cell?_alloc_new]
    rw [← hs]
    simp
  have HC := Lib.hid hc; clear hc; have HCELL := Lib.hid hcell; clear hcell; have HT := Lib.hid ht; clear ht
  go_enter Try.func102, Try.ntmps102
  go_wp2_with fail
  refine (l01Below_calls n pb a cap l _ (HC.out.below (by (repeat (first | with_reducible assumption | with_reducible exact Below.refl _ _ | with_reducible refine Below.drew ?_ | with_reducible refine belowDrewN ?_ _ | ((with_reducible refine Below.setCell ?_ ?_ _); rotate_left; focus (first | omega | (simp; done) | (simp; omega))) | ((with_reducible refine Below.alloc ?_ ?_ _); rotate_left; focus (first | omega | (simp; done) | (simp; omega))))))) (by omega) (by omega)).mono ?_
  rintro e w1 ⟨x, rfl, hx0, hx1, hc1, ho1⟩
  obtain ⟨k, rfl⟩ := Int.eq_ofNat_of_zero_le hx0
  obtain ⟨s, hs, hz⟩ := HCELL.out k (by omega)
  have hkl : k < n := by omega
  have hs1 : w1.cell? ⟨w.heap.size, k, none⟩ = some (.int .i64 s) := (World.cell?_of_block (ho1.block w.heap.size (by simp) (.inr (by omega)))).trans hs
  have hoo : OnlyIn pb (pb + 1) w w1 := ((OnlyIn.refl _ _ _).new _).trans ho1
  have HC1 := Lib.hid hc1; clear hc1; have HO1 := Lib.hid ho1; clear ho1; have HOO := Lib.hid hoo; clear hoo; have HS := Lib.hid hs; clear hs; have HZ := Lib.hid hz; clear hz
  go_wp2_with fail
  go_ret
  exact ⟨s, rfl, HZ.out, HC1.out, HOO.out⟩
end Go.Proofs.Ytghbnehocggnnaa

/-
  Walks: NumberDatum, StringDatum, SymbolDatum. No condition.
-/
set_option linter.unusedVariables false
set_option linter.unusedSimpArgs false
set_option maxRecDepth 100000
namespace Go.Proofs.Ytghbnehocggnnaa
open Go.RowKit

theorem isDatB_leaf (k n : Int) (s : ByteArray) : isDatB k n s [] = nodeB k n s 0 := by
  cases hq : nodeB k n s 0 with
  | true => exact isDatB_yes ⟨by simp [Dat.countL], by simp [Dat.depthL], by rw [Dat.ok_mk]; simpa using hq⟩
  | false => exact isDatB_no fun h => by have := (Dat.ok_mk.1 h.2.2).1; simp [hq] at this
def onlyN (b : Bool) (n : Int) : Int := if b = true then n else 0
def onlyS (b : Bool) (s : ByteArray) : ByteArray := if b = true then s else ⟨#[]⟩
@[simp] theorem onlyN_t (n : Int) : onlyN true n = n := rfl
@[simp] theorem onlyN_f (n : Int) : onlyN false n = 0 := rfl
@[simp] theorem onlyS_t (s : ByteArray) : onlyS true s = s := rfl
@[simp] theorem onlyS_f (s : ByteArray) : onlyS false s = ⟨#[]⟩ := rfl

def numB (n : Int) : Bool := inB n (-999999999) 999999999
theorem nodeB_num (n : Int) : nodeB 2 n ⟨#[]⟩ 0 = numB n := by unfold nodeB numB; simp
theorem nodeB_str (s : ByteArray) : nodeB 4 0 s 0 = strB s := by unfold nodeB; simp
theorem nodeB_sym (s : ByteArray) : nodeB 1 0 s 0 = isSymB s := by unfold nodeB; simp
theorem sStringDatum_calls (s : ByteArray) (w : World) (hs : s.size ≤ 9223372036854775807) : Calls Try.prog 119 #[.string s] w (RetDat 52 (.mk (onlyN (strB s) 4) 0 (onlyS (strB s) s) []) w) := by
  go_enter Try.func119, Try.ntmps119
  go_wp2_with fail
  refine (l1String_calls s _ hs).mono ?_
  rintro e w1 ⟨rfl, rfl⟩
  cases hq : strB s with
  | true =>
    go_wp2_with fail
    refine bodyPost_ret (v := .agg #[.int .i64 4, .int .i64 0, .string s, .slice none 0 0]) (by simp [results, Try.results119, go_sem]) rfl ?_
    exact ⟨none, 0, [], by simp [hq], rfl, M.Mine.nil _ _ _ _ (by decide), by (repeat (first | with_reducible assumption | with_reducible exact Below.refl _ _ | with_reducible refine Below.drew ?_ | with_reducible refine belowDrewN ?_ _ | ((with_reducible refine Below.setCell ?_ ?_ _); rotate_left; focus (first | omega | (simp; done) | (simp; omega))) | ((with_reducible refine Below.alloc ?_ ?_ _); rotate_left; focus (first | omega | (simp; done) | (simp; omega)))))⟩
  | false =>
    go_wp2_with fail
    refine bodyPost_ret (v := .agg #[.int .i64 0, .int .i64 0, .string ⟨#[]⟩, .slice none 0 0]) (by simp [results, Try.results119, go_sem]) rfl ?_
    exact ⟨none, 0, [], by simp [hq], rfl, M.Mine.nil _ _ _ _ (by decide), by (repeat (first | with_reducible assumption | with_reducible exact Below.refl _ _ | with_reducible refine Below.drew ?_ | with_reducible refine belowDrewN ?_ _ | ((with_reducible refine Below.setCell ?_ ?_ _); rotate_left; focus (first | omega | (simp; done) | (simp; omega))) | ((with_reducible refine Below.alloc ?_ ?_ _); rotate_left; focus (first | omega | (simp; done) | (simp; omega)))))⟩
theorem sSymbolDatum_calls (s : ByteArray) (w : World) (hs : s.size ≤ 9223372036854775807) : Calls Try.prog 116 #[.string s] w (RetDat 52 (.mk (onlyN (isSymB s) 1) 0 (onlyS (isSymB s) s) []) w) := by
  go_enter Try.func116, Try.ntmps116
  go_wp2_with fail
  refine (sIsSymbol_calls s _ hs).mono ?_
  rintro e w1 ⟨rfl, rfl⟩
  cases hq : isSymB s with
  | true =>
    go_wp2_with fail
    refine bodyPost_ret (v := .agg #[.int .i64 1, .int .i64 0, .string s, .slice none 0 0]) (by simp [results, Try.results116, go_sem]) rfl ?_
    exact ⟨none, 0, [], by simp [hq], rfl, M.Mine.nil _ _ _ _ (by decide), by (repeat (first | with_reducible assumption | with_reducible exact Below.refl _ _ | with_reducible refine Below.drew ?_ | with_reducible refine belowDrewN ?_ _ | ((with_reducible refine Below.setCell ?_ ?_ _); rotate_left; focus (first | omega | (simp; done) | (simp; omega))) | ((with_reducible refine Below.alloc ?_ ?_ _); rotate_left; focus (first | omega | (simp; done) | (simp; omega)))))⟩
  | false =>
    go_wp2_with fail
    refine bodyPost_ret (v := .agg #[.int .i64 0, .int .i64 0, .string ⟨#[]⟩, .slice none 0 0]) (by simp [results, Try.results116, go_sem]) rfl ?_
    exact ⟨none, 0, [], by simp [hq], rfl, M.Mine.nil _ _ _ _ (by decide), by (repeat (first | with_reducible assumption | with_reducible exact Below.refl _ _ | with_reducible refine Below.drew ?_ | with_reducible refine belowDrewN ?_ _ | ((with_reducible refine Below.setCell ?_ ?_ _); rotate_left; focus (first | omega | (simp; done) | (simp; omega))) | ((with_reducible refine Below.alloc ?_ ?_ _); rotate_left; focus (first | omega | (simp; done) | (simp; omega)))))⟩
theorem sNumberDatum_calls (n : Int) (w : World) : Calls Try.prog 117 #[.int .i64 n] w (RetDat 52 (.mk (onlyN (numB n) 2) (onlyN (numB n) n) ⟨#[]⟩ []) w) := by
  have hnb : numB n = inB n (-999999999) 999999999 := rfl
  go_enter Try.func117, Try.ntmps117
  go_wp2_with fail
  refine (l1In_calls n (-999999999) 999999999 _).mono ?_
  rintro e w1 ⟨rfl, rfl⟩
  rw [← hnb]
  clear hnb
  cases hq : numB n with
  | true =>
    go_wp2_with fail
    refine bodyPost_ret (v := .agg #[.int .i64 2, .int .i64 n, .string ⟨#[]⟩, .slice none 0 0]) (by simp [results, Try.results117, go_sem]) rfl ?_
    exact ⟨none, 0, [], by simp [hq], rfl, M.Mine.nil _ _ _ _ (by decide), by (repeat (first | with_reducible assumption | with_reducible exact Below.refl _ _ | with_reducible refine Below.drew ?_ | with_reducible refine belowDrewN ?_ _ | ((with_reducible refine Below.setCell ?_ ?_ _); rotate_left; focus (first | omega | (simp; done) | (simp; omega))) | ((with_reducible refine Below.alloc ?_ ?_ _); rotate_left; focus (first | omega | (simp; done) | (simp; omega)))))⟩
  | false =>
    go_wp2_with fail
    refine bodyPost_ret (v := .agg #[.int .i64 0, .int .i64 0, .string ⟨#[]⟩, .slice none 0 0]) (by simp [results, Try.results117, go_sem]) rfl ?_
    exact ⟨none, 0, [], by simp [hq], rfl, M.Mine.nil _ _ _ _ (by decide), by (repeat (first | with_reducible assumption | with_reducible exact Below.refl _ _ | with_reducible refine Below.drew ?_ | with_reducible refine belowDrewN ?_ _ | ((with_reducible refine Below.setCell ?_ ?_ _); rotate_left; focus (first | omega | (simp; done) | (simp; omega))) | ((with_reducible refine Below.alloc ?_ ?_ _); rotate_left; focus (first | omega | (simp; done) | (simp; omega)))))⟩
end Go.Proofs.Ytghbnehocggnnaa

/-
  Walks: the law's comparison of data that are one. No condition.
-/
set_option linter.unusedVariables false
set_option linter.unusedSimpArgs false
set_option maxRecDepth 100000
namespace Go.Proofs.Ytghbnehocggnnaa
open Go.RowKit

/-- two slices of the same data: element k of both -/
theorem Dat.elem2 {w : World} {a : Option Addr} {cap : Nat} {e : TypeId} {ds : List Dat} {ms : List M} (h : (M.sl a cap 4 e ms).In w) (hi : Dat.IsL e ds ms)
    {a' : Option Addr} {cap' : Nat} {e' : TypeId} {ms' : List M} (h' : (M.sl a' cap' 4 e' ms').In w) (hi' : Dat.IsL e' ds ms') (k : Nat) (hk : k < ms.length) :
    ∃ b off b' off' k1 n1 s1 ds1 a1 cap1 ms1 a1' cap1' ms1', a = some ⟨b, off, none⟩ ∧ a' = some ⟨b', off', none⟩ ∧ ds[k]? = some (.mk k1 n1 s1 ds1) ∧ Dat.IsL e ds1 ms1 ∧ Dat.IsL e' ds1 ms1' ∧ (M.sl a1 cap1 4 e ms1).In w ∧ (M.sl a1' cap1' 4 e' ms1').In w ∧
      w.cell? ⟨b, off + k * 4, none⟩ = some (.int .i64 k1) ∧ w.cell? ⟨b, off + k * 4 + 1, none⟩ = some (.int .i64 n1) ∧
      w.cell? ⟨b, off + k * 4 + 2, none⟩ = some (.string s1) ∧ w.cell? ⟨b, off + k * 4 + 3, none⟩ = some (.slice a1 ms1.length cap1) ∧
      w.cell? ⟨b', off' + k * 4, none⟩ = some (.int .i64 k1) ∧ w.cell? ⟨b', off' + k * 4 + 1, none⟩ = some (.int .i64 n1) ∧
      w.cell? ⟨b', off' + k * 4 + 2, none⟩ = some (.string s1) ∧ w.cell? ⟨b', off' + k * 4 + 3, none⟩ = some (.slice a1' ms1'.length cap1') := by
  obtain ⟨b, off, k1, n1, s1, ds1, a1, cap1, ms1, ha, hd, hi1, hin1, c0, c1, c2, c3⟩ := Dat.elem h hi k hk
  obtain ⟨b', off', k1', n1', s1', ds1', a1', cap1', ms1', ha', hd', hi1', hin1', c0', c1', c2', c3'⟩ := Dat.elem h' hi' k (by rw [hi'.length, ← hi.length]; exact hk)
  rw [hd] at hd'
  simp only [Option.some.injEq, Dat.mk.injEq] at hd'
  obtain ⟨rfl, rfl, rfl, rfl⟩ := hd'
  exact ⟨b, off, b', off', k1, n1, s1, ds1, a1, cap1, ms1, a1', cap1', ms1', ha, ha', hd, hi1, hi1', hin1, hin1', c0, c1, c2, c3, c0', c1', c2', c3'⟩

end Go.Proofs.Ytghbnehocggnnaa

/-
  Walks: marking data. No condition.
-/
set_option linter.unusedVariables false
set_option linter.unusedSimpArgs false
set_option maxRecDepth 100000
namespace Go.Proofs.Ytghbnehocggnnaa
open Go.RowKit

mutual
/-- A datum whose places have been numbered from k on. -/
def Dat.mark (k : Int) : Dat → Dat
  | .mk _ _ _ es => .mk k (k + 1) (mtx (k + 2)) (Dat.markL (k + 3) es)
def Dat.markL (k : Int) : List Dat → List Dat
  | [] => []
  | d :: r => d.mark k :: Dat.markL (k + 3 * (d.count : Int)) r
end
theorem Dat.markL_append (xs ys : List Dat) : ∀ k, Dat.markL k (xs ++ ys) = Dat.markL k xs ++ Dat.markL (k + 3 * (Dat.countL xs : Int)) ys := by
  induction xs with
  | nil => intro k; simp [Dat.markL, Dat.countL]
  | cons x r ih =>
    intro k
    simp only [List.cons_append, Dat.markL, Dat.countL, ih]
    congr 3
    push_cast; omega
theorem Dat.markL_length (ds : List Dat) : ∀ k, (Dat.markL k ds).length = ds.length := by
  induction ds with
  | nil => intro k; rfl
  | cons x r ih => intro k; simp [Dat.markL, ih]
mutual
theorem Dat.count_mark : ∀ (d : Dat) (k : Int), (d.mark k).count = d.count
  | .mk _ _ _ es, k => by simp only [Dat.mark, Dat.count, Dat.countL_markL es]
theorem Dat.countL_markL : ∀ (ds : List Dat) (k : Int), Dat.countL (Dat.markL k ds) = Dat.countL ds
  | [], k => rfl
  | d :: r, k => by simp only [Dat.markL, Dat.countL, Dat.count_mark d, Dat.countL_markL r]
end
theorem Dat.markL_take {ds : List Dat} {j : Nat} {d : Dat} (h : ds[j]? = some d) (k : Int) : Dat.markL k (ds.take (j + 1)) = Dat.markL k (ds.take j) ++ [d.mark (k + 3 * (Dat.countL (ds.take j) : Int))] := by
  rw [take_snoc h, Dat.markL_append]; rfl
theorem Dat.mark_set {ds : List Dat} {j : Nat} {d : Dat} (h : ds[j]? = some d) (k : Int) :
    (Dat.markL k (ds.take j) ++ ds.drop j).set j (d.mark (k + 3 * (Dat.countL (ds.take j) : Int))) = Dat.markL k (ds.take (j + 1)) ++ ds.drop (j + 1) := by
  obtain ⟨hj, rfl⟩ := List.getElem?_eq_some_iff.1 h
  have hl : (Dat.markL k (ds.take j)).length = j := by rw [Dat.markL_length]; simp; omega
  rw [List.set_append, hl, if_neg (by omega), Nat.sub_self, List.drop_eq_getElem_cons hj, List.set_cons_zero, Dat.markL_take h k]
  simp
theorem Dat.mark_at {ds : List Dat} {j : Nat} (k : Int) (hj : j < ds.length) : (Dat.markL k (ds.take j) ++ ds.drop j)[j]? = ds[j]? := by
  have hl : (Dat.markL k (ds.take j)).length = j := by rw [Dat.markL_length]; simp; omega
  rw [List.getElem?_append_right (by omega), hl, Nat.sub_self, List.getElem?_drop]; simp

end Go.Proofs.Ytghbnehocggnnaa

/-
  Walks: marked data are held; marking and holding of a datum. No condition.
-/
set_option linter.unusedVariables false
set_option linter.unusedSimpArgs false
set_option maxRecDepth 100000
namespace Go.Proofs.Ytghbnehocggnnaa
open Go.RowKit

theorem Dat.markL_get {ds : List Dat} {j : Nat} {d : Dat} (h : ds[j]? = some d) (k : Int) : (Dat.markL k ds)[j]? = some (d.mark (k + 3 * (Dat.countL (ds.take j) : Int))) := by
  obtain ⟨hj, rfl⟩ := List.getElem?_eq_some_iff.1 h
  conv => lhs; rw [← List.take_append_drop j ds, List.drop_eq_getElem_cons hj, Dat.markL_append]
  have hl : (Dat.markL k (ds.take j)).length = j := by rw [Dat.markL_length]; simp; omega
  rw [List.getElem?_append_right (by omega), hl, Nat.sub_self]; rfl

end Go.Proofs.Ytghbnehocggnnaa

/-
  Walks: BooleanDatum. No condition.
-/
set_option linter.unusedVariables false
set_option linter.unusedSimpArgs false
set_option maxRecDepth 100000
namespace Go.Proofs.Ytghbnehocggnnaa
open Go.RowKit
def bnum (b : Bool) : Int := if b = true then 1 else 0
theorem sBooleanDatum_calls (b : Bool) (w : World) : Calls Try.prog 118 #[.bool b] w (RetDat 52 (.mk 3 (bnum b) ⟨#[]⟩ []) w) := by
  cases b with
  | true =>
    go_enter Try.func118, Try.ntmps118
    go_wp2_with fail
    refine bodyPost_ret (v := .agg #[.int .i64 3, .int .i64 1, .string ⟨#[]⟩, .slice none 0 0]) (by simp [results, Try.results118, go_sem]) rfl ?_
    exact ⟨none, 0, [], rfl, rfl, M.Mine.nil _ _ _ _ (by decide), by (repeat (first | with_reducible assumption | with_reducible exact Below.refl _ _ | with_reducible refine Below.drew ?_ | with_reducible refine belowDrewN ?_ _ | ((with_reducible refine Below.setCell ?_ ?_ _); rotate_left; focus (first | omega | (simp; done) | (simp; omega))) | ((with_reducible refine Below.alloc ?_ ?_ _); rotate_left; focus (first | omega | (simp; done) | (simp; omega)))))⟩
  | false =>
    go_enter Try.func118, Try.ntmps118
    go_wp2_with fail
    refine bodyPost_ret (v := .agg #[.int .i64 3, .int .i64 0, .string ⟨#[]⟩, .slice none 0 0]) (by simp [results, Try.results118, go_sem]) rfl ?_
    exact ⟨none, 0, [], rfl, rfl, M.Mine.nil _ _ _ _ (by decide), by (repeat (first | with_reducible assumption | with_reducible exact Below.refl _ _ | with_reducible refine Below.drew ?_ | with_reducible refine belowDrewN ?_ _ | ((with_reducible refine Below.setCell ?_ ?_ _); rotate_left; focus (first | omega | (simp; done) | (simp; omega))) | ((with_reducible refine Below.alloc ?_ ?_ _); rotate_left; focus (first | omega | (simp; done) | (simp; omega)))))⟩
end Go.Proofs.Ytghbnehocggnnaa

/-
  Walks: data drawn. No condition.
-/
set_option linter.unusedVariables false
set_option linter.unusedSimpArgs false
set_option maxRecDepth 100000
namespace Go.Proofs.Ytghbnehocggnnaa
open Go.RowKit

/-- a new datum's cells at block b -/
structure Zero (b : Nat) (w : World) : Prop where
  c0 : w.cell? ⟨b, 0, none⟩ = some (.int .i64 0)
  c1 : w.cell? ⟨b, 1, none⟩ = some (.int .i64 0)
  c2 : w.cell? ⟨b, 2, none⟩ = some (.string ⟨#[]⟩)
  c3 : w.cell? ⟨b, 3, none⟩ = some (.slice none 0 0)
  f0 : w.frozen? ⟨b, 0, none⟩ = false
  f1 : w.frozen? ⟨b, 1, none⟩ = false
  f2 : w.frozen? ⟨b, 2, none⟩ = false
  f3 : w.frozen? ⟨b, 3, none⟩ = false
theorem Zero.lt {b : Nat} {w : World} (h : Zero b w) : b < w.heap.size := World.block_lt_of_cell? w _ h.c0
theorem Zero.of {b : Nat} {w w' : World} (h : Zero b w) (hk : w'.heap[b]? = w.heap[b]?) : Zero b w' :=
  ⟨(World.cell?_of_block hk).trans h.c0, (World.cell?_of_block hk).trans h.c1, (World.cell?_of_block hk).trans h.c2, (World.cell?_of_block hk).trans h.c3,
   (World.frozen?_of_block hk).trans h.f0, (World.frozen?_of_block hk).trans h.f1, (World.frozen?_of_block hk).trans h.f2, (World.frozen?_of_block hk).trans h.f3⟩
theorem Zero.only {b lo hi : Nat} {w w' : World} (h : Zero b w) (k : OnlyIn lo hi w w') (hb : b < lo ∨ hi ≤ b) : Zero b w' := h.of (k.block b h.lt hb)
theorem Zero.below {b B : Nat} {w w' : World} (h : Zero b w) (k : Below B w w') (hb : b < B) : Zero b w' := h.of (k.block b hb)
theorem Zero.new (w : World) : Zero w.heap.size (w.alloc (.cells #[.int .i64 0, .int .i64 0, .string ⟨#[]⟩, .slice none 0 0] 52)) := by
  constructor <;> simp [go_sem]

def textsB : List Value → Bool
  | [] => true
  | .string s :: r => decide (s.size ≤ 100) && textsB r
  | _ => false
theorem Texts.of {cs : Array Value} (h : textsB cs.toList = true) : Texts cs := by
  unfold Texts
  generalize cs.toList = l at *
  induction l with
  | nil => simp
  | cons x r ih =>
    cases x with
    | string s =>
      simp only [textsB, Bool.and_eq_true, decide_eq_true_eq] at h
      intro v hv
      rcases List.mem_cons.1 hv with rfl | hv
      · exact ⟨s, rfl, h.1⟩
      · exact ih h.2 v hv
    | _ => simp [textsB] at h
def numsB : List Value → Bool
  | [] => true
  | .int .i64 s :: r => decide (-9223372036854775808 ≤ s ∧ s ≤ 9223372036854775807) && numsB r
  | _ => false
theorem Nums.of {cs : Array Value} (h : numsB cs.toList = true) : Nums cs := by
  unfold Nums
  generalize cs.toList = l at *
  induction l with
  | nil => simp
  | cons x r ih =>
    cases x with
    | int k s =>
      cases k with
      | i64 =>
        simp only [numsB, Bool.and_eq_true, decide_eq_true_eq] at h
        intro v hv
        rcases List.mem_cons.1 hv with rfl | hv
        · exact ⟨s, rfl, h.1⟩
        · exact ih h.2 v hv
      | _ => simp [numsB] at h
    | _ => simp [numsB] at h

mutual
/-- numbers of the machine, texts of at most 100 bytes -/
def Dat.wf1 : Dat → Prop
  | .mk k n s ds => I64 k ∧ I64 n ∧ s.size ≤ 100 ∧ Dat.wf1L ds
def Dat.wf1L : List Dat → Prop
  | [] => True
  | d :: ds => d.wf1 ∧ Dat.wf1L ds
end
mutual
theorem Dat.wf1.wf : ∀ {d : Dat}, d.wf1 → d.wf
  | .mk _ _ _ _, h => ⟨h.1, h.2.1, Nat.le_trans h.2.2.1 (by decide), Dat.wf1L.wfL h.2.2.2⟩
theorem Dat.wf1L.wfL : ∀ {ds : List Dat}, Dat.wf1L ds → Dat.wfL ds
  | [], _ => trivial
  | _ :: _, h => ⟨Dat.wf1.wf h.1, Dat.wf1L.wfL h.2⟩
end
theorem wf1L_snoc : ∀ {ds : List Dat} {d : Dat}, Dat.wf1L ds → d.wf1 → Dat.wf1L (ds ++ [d])
  | [], _, _, k => ⟨k, trivial⟩
  | _ :: _, _, h, k => ⟨h.1, wf1L_snoc h.2 k⟩
/-- a datum without items made -/
def RetLeaf (w : World) (e : Ending) (w' : World) : Prop :=
  ∃ (k n : Int) (s : ByteArray) (a : Option Addr) (cap : Nat) (ms : List M), e = .returned (.agg #[.int .i64 k, .int .i64 n, .string s, .slice a ms.length cap]) ∧ Dat.IsL 52 [] ms ∧ (M.sl a cap 4 52 ms).Mine w' w.heap.size ∧ (Dat.mk k n s []).wf1 ∧ Below w.heap.size w w'
theorem onlyS_size (b : Bool) (s : ByteArray) : (onlyS b s).size ≤ s.size := by unfold onlyS; split; exact Nat.le_refl _; exact Nat.zero_le _
theorem onlyN_I64 (b : Bool) {n : Int} (h : I64 n) : I64 (onlyN b n) := by unfold onlyN; split; exact h; (unfold I64; omega)
theorem leafSym (s : ByteArray) (w : World) (hs : s.size ≤ 100) : Calls Try.prog 116 #[.string s] w (RetLeaf w) := by
  refine (sSymbolDatum_calls s _ (by omega)).mono ?_
  rintro e w' ⟨a, cap, ms, rfl, hi, hm, hb⟩
  exact ⟨_, _, _, a, cap, ms, rfl, hi, hm, ⟨onlyN_I64 _ (by unfold I64; omega), by show I64 0; unfold I64; omega, Nat.le_trans (onlyS_size _ _) (by omega), trivial⟩, hb⟩
theorem leafStr (s : ByteArray) (w : World) (hs : s.size ≤ 100) : Calls Try.prog 119 #[.string s] w (RetLeaf w) := by
  refine (sStringDatum_calls s _ (by omega)).mono ?_
  rintro e w' ⟨a, cap, ms, rfl, hi, hm, hb⟩
  exact ⟨_, _, _, a, cap, ms, rfl, hi, hm, ⟨onlyN_I64 _ (by unfold I64; omega), by show I64 0; unfold I64; omega, Nat.le_trans (onlyS_size _ _) (by omega), trivial⟩, hb⟩
theorem leafNum (n : Int) (w : World) (hn : I64 n) : Calls Try.prog 117 #[.int .i64 n] w (RetLeaf w) := by
  refine (sNumberDatum_calls n _).mono ?_
  rintro e w' ⟨a, cap, ms, rfl, hi, hm, hb⟩
  exact ⟨_, _, _, a, cap, ms, rfl, hi, hm, ⟨onlyN_I64 _ (by unfold I64; omega), onlyN_I64 _ hn, by show (ByteArray.mk #[]).size ≤ _; decide, trivial⟩, hb⟩
theorem leafBool (b : Bool) (w : World) : Calls Try.prog 118 #[.bool b] w (RetLeaf w) := by
  refine (sBooleanDatum_calls b _).mono ?_
  rintro e w' ⟨a, cap, ms, rfl, hi, hm, hb⟩
  exact ⟨_, _, _, a, cap, ms, rfl, hi, hm, ⟨by show I64 3; unfold I64; omega, by show I64 (bnum b); unfold bnum I64; split <;> omega, by show (ByteArray.mk #[]).size ≤ _; decide, trivial⟩, hb⟩
/-- a datum drawn, of at most B nodes -/
def DrawnD (B : Nat) (pb : Nat) (a : Option Addr) (cap : Nat) (l : List Int) (w : World) (e : Ending) (w' : World) : Prop :=
  ∃ (k n : Int) (s : ByteArray) (ds : List Dat) (a' : Option Addr) (cap' : Nat) (ms : List M), e = .returned (.agg #[.int .i64 k, .int .i64 n, .string s, .slice a' ms.length cap']) ∧ Dat.IsL 52 ds ms ∧ (M.sl a' cap' 4 52 ms).Mine w' w.heap.size ∧ (Dat.mk k n s ds).wf1 ∧ 1 + Dat.countL ds ≤ B ∧ Cur pb a cap l w' ∧ OnlyIn pb (pb + 1) w w'
def nB : Nat → Nat
  | 0 => 1
  | d + 1 => 1 + 4 * nB d
theorem nB_pos (d : Nat) : 1 ≤ nB d := by cases d <;> simp [nB]
end Go.Proofs.Ytghbnehocggnnaa

/-
  append of one element after a call that changed other cells. No condition.
-/
set_option linter.unusedVariables false
namespace Go.Proofs.Ytghbnehocggnnaa
open Go.RowKit

theorem step_push3 {P : Program} {wr w1 : World} {ops : Array Oper} {o : Oper} {act : Act} {K : Act → World → Prop} {Q : Exit → Act → World → Prop} {E : Prop} (hgd : o.guard = none) (s x : Operand) (t : TypeId)
    (ho : o.op = .call { callee := .builtin .append, args := #[s, x], argTypes := #[t, t] })
    (e : TypeId) (z : Value) (size bytes : Nat) (ht : P.underlying t = some (.slice e)) (hinfo : (P.info? e).map (fun i => (i.zero, i.size, i.bytes)) = some (some z, size, bytes))
    (hzs : z.cells.size = size) (hsz : 0 < size)
    (lo : Nat) (a : Option Addr) (cap : Nat) (xs : List M) (hs : act.eval s = .slice a xs.length cap) (hrow : (M.sl a cap size e xs).Mine wr lo) (hlo : lo ≤ wr.heap.size) (hsz1 : wr.heap.size ≤ w1.heap.size) (hk : ∀ b, lo ≤ b → b < wr.heap.size → w1.heap[b]? = wr.heap[b]?)
    (cs : Array Value) (m : M) (hmc : m.cells = cs.toList) (hml : cs.size = size) (c : Nat) (hm : m.Mine w1 c) (hc : wr.heap.size ≤ c)
    (hx : act.eval x = .slice (some ⟨w1.heap.size, 0, none⟩) 1 1) (h63 : xs.length + 1 ≤ maxLen) (hbytes : (xs.length + 1) * bytes ≤ 140737488355328)
    (h : ∀ a' cap' w', (M.sl a' cap' size e (xs ++ [m])).Mine w' lo → Below lo w1 w' → w1.heap.size ≤ w'.heap.size → (∀ b, b < w1.heap.size → b ∉ addrBlocks a → w'.heap[b]? = w1.heap[b]?) →
      K (act.put o.dst (.slice a' (xs.length + 1) cap')) w') : if Region.wanted o (yielded ops act.tmps) = true then Oper.wp P o act (w1.alloc (.cells cs e)) K Q else E := by
  have hrw : (M.sl a cap size e xs).Mine (w1.alloc (.cells cs e)) lo := by
    refine M.Mine.keep hrow fun b h1 h2 => ?_
    rw [heapNew _ _ _ (by omega), hk b h1 h2]
  have hmw : m.Mine (w1.alloc (.cells cs e)) lo := by
    refine M.Mine.mono (M.Mine.keep hm fun b h1 h2 => ?_) (by omega)
    rw [heapNew _ _ _ h2]
  have hlen : m.cells.length = size := by rw [hmc]; simpa using hml
  refine step_row _ hgd s x t ho e z size bytes ht hinfo hzs hsz lo a xs.length cap (M.cellsL xs) hs hrw.own.1.1 _ 1 1 m.cells hx (by omega) (by simp) ?_ ?_ h63 hbytes (by simp; omega) ?_
  · intro ad had j u hu
    obtain rfl := Option.some.inj had
    rw [addr_add, Nat.zero_add, World.cell?_alloc_new]
    rw [hmc] at hu
    simpa using hu
  · exact M.Own.one m hmw.own
  · intro a' cap' w' hr hg ha
    have hY : M.MineL (w1.alloc (.cells cs e)) lo [m] := ⟨⟨hmw.own, trivial⟩, by simpa [M.blocksL] using hmw.dup⟩
    have hp := M.Mine.push (ys := [m]) hrw (by simpa [M.cellsL] using hr) hg ha hY (by simpa using hlen) (fun b hb' => by
      have h1 := hm.lt b (by simpa [M.blocksL] using hb')
      have h2 : ∀ b' ∈ (M.sl a cap size e xs).blocks, b' < wr.heap.size := fun b' hb' => (hrow.lt b' hb').2
      exact ⟨fun hn => by have := h2 b (by simp [M.blocks, hn]); omega, fun hn => by have := h2 b (by simp [M.blocks, hn]); omega⟩)
    have hkeep : ∀ b, b < w1.heap.size → b ∉ addrBlocks a → w'.heap[b]? = w1.heap[b]? := fun b hb1 hn => by
      rw [hg.block b (by simp; omega) (fun he => hn (addrBlocks_own.1 he.symm)), heapNew _ _ _ hb1]
    have hgs := hg.size
    refine h a' cap' w' hp ?_ ?_ hkeep
    · have := grownBy_below (lo := lo) hg (B := lo) (by simp; omega) fun b hb => (Mine.addr_lo hrow b hb).1
      exact ⟨this.os, this.tape, this.output, by simp at hgs; omega, fun k hk => by rw [this.block k hk, heapNew _ _ _ (by omega)]⟩
    · simp at hgs; omega
end Go.Proofs.Ytghbnehocggnnaa

/-
  Walks: data drawn. No condition. (printed by wip/tools/mkq6.py)
-/
set_option linter.unusedVariables false
set_option linter.unusedSimpArgs false
set_option maxRecDepth 100000
namespace Go.Proofs.Ytghbnehocggnnaa
open Go.RowKit

def DrD (d : Nat) : Prop := ∀ (pb : Nat) (a : Option Addr) (cap : Nat) (l : List Int) (w : World), Cur pb a cap l w → Calls Try.prog 101 #[.pointer (some ⟨pb, 0, none⟩), .int .i64 d] w (DrawnD (nB d) pb a cap l w)
set_option maxHeartbeats 4000000 in
theorem l1Draw_leaf (d : Nat) (hd1 : (d : Int) ≤ 1) : DrD d := by
  intro pb a cap l w hc
  have hpl := hc.lt
  have HC := Lib.hid hc; clear hc
  go_enter Try.func101, Try.ntmps101
  go_wp2_with fail
  refine (l01Below_calls 9 pb a cap l _ (HC.out.below (by (repeat (first | with_reducible assumption | with_reducible exact Below.refl _ _ | with_reducible refine Below.drew ?_ | with_reducible refine belowDrewN ?_ _ | ((with_reducible refine Below.setCell ?_ ?_ _); rotate_left; focus (first | omega | (simp; done) | (simp; omega))) | ((with_reducible refine Below.alloc ?_ ?_ _); rotate_left; focus (first | omega | (simp; done) | (simp; omega))))))) (by decide) (by decide)).mono ?_
  rintro e w1 ⟨x, rfl, hx0, hx1, hc1, ho1⟩
  have hz1 := ho1.size
  simp only [World.size_alloc] at hz1
  have hzz := (Zero.new w).only ho1 (.inr (by omega))
  have hoo : OnlyIn pb (pb + 1) w w1 := ((OnlyIn.refl _ _ _).new _).trans ho1
  have HZ1 := Lib.hid hzz; clear hzz
  have HC1 := Lib.hid hc1; clear hc1; have HO1 := Lib.hid ho1; clear ho1; have HOO := Lib.hid hoo; clear hoo
  have hx : x = 0 ∨ x = 1 ∨ x = 2 ∨ x = 3 ∨ x = 4 ∨ x = 5 ∨ x = 6 ∨ x = 7 ∨ x = 8 := by omega
  clear hx0 hx1
  rcases hx with rfl | rfl | rfl | rfl | rfl | rfl | rfl | rfl | rfl
  · go_wp2_with fail
    refine (l01Pick_lit _ _ pb a cap l _ HC1.out ?size (by decide) (by decide) ?texts).mono ?_
    case size => rfl
    case texts => exact Texts.of (by rfl)
    rintro e w2 ⟨x2, rfl, hx2, hc2, ho2⟩
    have hz2 := ho2.size
    have HZ2 := Lib.hid (HZ1.out.only ho2 (.inr (by omega)))
    have HC2 := Lib.hid hc2; clear hc2; have HO2 := Lib.hid ho2; clear ho2
    go_wp2_with fail
    refine (leafSym _ _ hx2).mono ?_
    rintro e w3 ⟨k3, n3, s3, a3, c3, m3, rfl, hi3, hm3, hw3, hb3⟩
    obtain ⟨r0, r1, r2, r3, g0, g1, g2, g3⟩ := HZ2.out.below hb3 (by omega)
    have hc3 := HC2.out.below hb3
    have ho3 := (HOO.out.trans HO2.out).thenBelow (hb3.mono (by omega))
    have HI3 := Lib.hid hi3; clear hi3; have HW3 := Lib.hid hw3; clear hw3; have HM3 := Lib.hid hm3; clear hm3; have HC3 := Lib.hid hc3; clear hc3; have HO3 := Lib.hid ho3; clear ho3; have HB3 := Lib.hid hb3; clear hb3
    go_wp2_with fail
    refine bodyPost_ret (v := .agg #[.int .i64 k3, .int .i64 n3, .string s3, .slice a3 m3.length c3]) (by simp [results, Try.results101, go_sem, r0, r1, r2, r3]) rfl ?_
    refine ⟨k3, n3, s3, [], a3, c3, m3, rfl, HI3.out, ?_, HW3.out, by simp [Dat.countL]; exact nB_pos _, ?_, ?_⟩
    · (exact M.Mine.mono (M.Mine.keep HM3.out (fun b hb1 hb2 => by (try simp at hb1); simp (disch := (first | omega | (simp; omega))) only [heapSet, heapNew, heapDrew, heapDrewN])) (by first | omega | (simp; done) | (simp; omega)))
    · exact HC3.out.belowB (B := w.heap.size) (by (repeat (first | with_reducible assumption | with_reducible exact Below.refl _ _ | with_reducible refine Below.drew ?_ | with_reducible refine belowDrewN ?_ _ | ((with_reducible refine Below.setCell ?_ ?_ _); rotate_left; focus (first | omega | (simp; done) | (simp; omega))) | ((with_reducible refine Below.alloc ?_ ?_ _); rotate_left; focus (first | omega | (simp; done) | (simp; omega)))))) hpl
    · exact HO3.out.thenBelow (by (repeat (first | with_reducible assumption | with_reducible exact Below.refl _ _ | with_reducible refine Below.drew ?_ | with_reducible refine belowDrewN ?_ _ | ((with_reducible refine Below.setCell ?_ ?_ _); rotate_left; focus (first | omega | (simp; done) | (simp; omega))) | ((with_reducible refine Below.alloc ?_ ?_ _); rotate_left; focus (first | omega | (simp; done) | (simp; omega))))))
  · go_wp2_with fail
    refine (l01Pick_lit _ _ pb a cap l _ HC1.out ?size (by decide) (by decide) ?texts).mono ?_
    case size => rfl
    case texts => exact Texts.of (by rfl)
    rintro e w2 ⟨x2, rfl, hx2, hc2, ho2⟩
    have hz2 := ho2.size
    have HZ2 := Lib.hid (HZ1.out.only ho2 (.inr (by omega)))
    have HC2 := Lib.hid hc2; clear hc2; have HO2 := Lib.hid ho2; clear ho2
    go_wp2_with fail
    refine (leafSym _ _ hx2).mono ?_
    rintro e w3 ⟨k3, n3, s3, a3, c3, m3, rfl, hi3, hm3, hw3, hb3⟩
    obtain ⟨r0, r1, r2, r3, g0, g1, g2, g3⟩ := HZ2.out.below hb3 (by omega)
    have hc3 := HC2.out.below hb3
    have ho3 := (HOO.out.trans HO2.out).thenBelow (hb3.mono (by omega))
    have HI3 := Lib.hid hi3; clear hi3; have HW3 := Lib.hid hw3; clear hw3; have HM3 := Lib.hid hm3; clear hm3; have HC3 := Lib.hid hc3; clear hc3; have HO3 := Lib.hid ho3; clear ho3; have HB3 := Lib.hid hb3; clear hb3
    go_wp2_with fail
    refine bodyPost_ret (v := .agg #[.int .i64 k3, .int .i64 n3, .string s3, .slice a3 m3.length c3]) (by simp [results, Try.results101, go_sem, r0, r1, r2, r3]) rfl ?_
    refine ⟨k3, n3, s3, [], a3, c3, m3, rfl, HI3.out, ?_, HW3.out, by simp [Dat.countL]; exact nB_pos _, ?_, ?_⟩
    · (exact M.Mine.mono (M.Mine.keep HM3.out (fun b hb1 hb2 => by (try simp at hb1); simp (disch := (first | omega | (simp; omega))) only [heapSet, heapNew, heapDrew, heapDrewN])) (by first | omega | (simp; done) | (simp; omega)))
    · exact HC3.out.belowB (B := w.heap.size) (by (repeat (first | with_reducible assumption | with_reducible exact Below.refl _ _ | with_reducible refine Below.drew ?_ | with_reducible refine belowDrewN ?_ _ | ((with_reducible refine Below.setCell ?_ ?_ _); rotate_left; focus (first | omega | (simp; done) | (simp; omega))) | ((with_reducible refine Below.alloc ?_ ?_ _); rotate_left; focus (first | omega | (simp; done) | (simp; omega)))))) hpl
    · exact HO3.out.thenBelow (by (repeat (first | with_reducible assumption | with_reducible exact Below.refl _ _ | with_reducible refine Below.drew ?_ | with_reducible refine belowDrewN ?_ _ | ((with_reducible refine Below.setCell ?_ ?_ _); rotate_left; focus (first | omega | (simp; done) | (simp; omega))) | ((with_reducible refine Below.alloc ?_ ?_ _); rotate_left; focus (first | omega | (simp; done) | (simp; omega))))))
  · go_wp2_with fail
    refine (l01Int_lit _ _ pb a cap l _ HC1.out ?size (by decide) (by decide) ?texts).mono ?_
    case size => rfl
    case texts => exact Nums.of (by rfl)
    rintro e w2 ⟨x2, rfl, hx2, hc2, ho2⟩
    have hz2 := ho2.size
    have HZ2 := Lib.hid (HZ1.out.only ho2 (.inr (by omega)))
    have HC2 := Lib.hid hc2; clear hc2; have HO2 := Lib.hid ho2; clear ho2
    go_wp2_with fail
    refine (leafNum _ _ hx2).mono ?_
    rintro e w3 ⟨k3, n3, s3, a3, c3, m3, rfl, hi3, hm3, hw3, hb3⟩
    obtain ⟨r0, r1, r2, r3, g0, g1, g2, g3⟩ := HZ2.out.below hb3 (by omega)
    have hc3 := HC2.out.below hb3
    have ho3 := (HOO.out.trans HO2.out).thenBelow (hb3.mono (by omega))
    have HI3 := Lib.hid hi3; clear hi3; have HW3 := Lib.hid hw3; clear hw3; have HM3 := Lib.hid hm3; clear hm3; have HC3 := Lib.hid hc3; clear hc3; have HO3 := Lib.hid ho3; clear ho3; have HB3 := Lib.hid hb3; clear hb3
    go_wp2_with fail
    refine bodyPost_ret (v := .agg #[.int .i64 k3, .int .i64 n3, .string s3, .slice a3 m3.length c3]) (by simp [results, Try.results101, go_sem, r0, r1, r2, r3]) rfl ?_
    refine ⟨k3, n3, s3, [], a3, c3, m3, rfl, HI3.out, ?_, HW3.out, by simp [Dat.countL]; exact nB_pos _, ?_, ?_⟩
    · (exact M.Mine.mono (M.Mine.keep HM3.out (fun b hb1 hb2 => by (try simp at hb1); simp (disch := (first | omega | (simp; omega))) only [heapSet, heapNew, heapDrew, heapDrewN])) (by first | omega | (simp; done) | (simp; omega)))
    · exact HC3.out.belowB (B := w.heap.size) (by (repeat (first | with_reducible assumption | with_reducible exact Below.refl _ _ | with_reducible refine Below.drew ?_ | with_reducible refine belowDrewN ?_ _ | ((with_reducible refine Below.setCell ?_ ?_ _); rotate_left; focus (first | omega | (simp; done) | (simp; omega))) | ((with_reducible refine Below.alloc ?_ ?_ _); rotate_left; focus (first | omega | (simp; done) | (simp; omega)))))) hpl
    · exact HO3.out.thenBelow (by (repeat (first | with_reducible assumption | with_reducible exact Below.refl _ _ | with_reducible refine Below.drew ?_ | with_reducible refine belowDrewN ?_ _ | ((with_reducible refine Below.setCell ?_ ?_ _); rotate_left; focus (first | omega | (simp; done) | (simp; omega))) | ((with_reducible refine Below.alloc ?_ ?_ _); rotate_left; focus (first | omega | (simp; done) | (simp; omega))))))
  · go_wp2_with fail
    refine (l01Int_lit _ _ pb a cap l _ HC1.out ?size (by decide) (by decide) ?texts).mono ?_
    case size => rfl
    case texts => exact Nums.of (by rfl)
    rintro e w2 ⟨x2, rfl, hx2, hc2, ho2⟩
    have hz2 := ho2.size
    have HZ2 := Lib.hid (HZ1.out.only ho2 (.inr (by omega)))
    have HC2 := Lib.hid hc2; clear hc2; have HO2 := Lib.hid ho2; clear ho2
    go_wp2_with fail
    refine (leafNum _ _ hx2).mono ?_
    rintro e w3 ⟨k3, n3, s3, a3, c3, m3, rfl, hi3, hm3, hw3, hb3⟩
    obtain ⟨r0, r1, r2, r3, g0, g1, g2, g3⟩ := HZ2.out.below hb3 (by omega)
    have hc3 := HC2.out.below hb3
    have ho3 := (HOO.out.trans HO2.out).thenBelow (hb3.mono (by omega))
    have HI3 := Lib.hid hi3; clear hi3; have HW3 := Lib.hid hw3; clear hw3; have HM3 := Lib.hid hm3; clear hm3; have HC3 := Lib.hid hc3; clear hc3; have HO3 := Lib.hid ho3; clear ho3; have HB3 := Lib.hid hb3; clear hb3
    go_wp2_with fail
    refine bodyPost_ret (v := .agg #[.int .i64 k3, .int .i64 n3, .string s3, .slice a3 m3.length c3]) (by simp [results, Try.results101, go_sem, r0, r1, r2, r3]) rfl ?_
    refine ⟨k3, n3, s3, [], a3, c3, m3, rfl, HI3.out, ?_, HW3.out, by simp [Dat.countL]; exact nB_pos _, ?_, ?_⟩
    · (exact M.Mine.mono (M.Mine.keep HM3.out (fun b hb1 hb2 => by (try simp at hb1); simp (disch := (first | omega | (simp; omega))) only [heapSet, heapNew, heapDrew, heapDrewN])) (by first | omega | (simp; done) | (simp; omega)))
    · exact HC3.out.belowB (B := w.heap.size) (by (repeat (first | with_reducible assumption | with_reducible exact Below.refl _ _ | with_reducible refine Below.drew ?_ | with_reducible refine belowDrewN ?_ _ | ((with_reducible refine Below.setCell ?_ ?_ _); rotate_left; focus (first | omega | (simp; done) | (simp; omega))) | ((with_reducible refine Below.alloc ?_ ?_ _); rotate_left; focus (first | omega | (simp; done) | (simp; omega)))))) hpl
    · exact HO3.out.thenBelow (by (repeat (first | with_reducible assumption | with_reducible exact Below.refl _ _ | with_reducible refine Below.drew ?_ | with_reducible refine belowDrewN ?_ _ | ((with_reducible refine Below.setCell ?_ ?_ _); rotate_left; focus (first | omega | (simp; done) | (simp; omega))) | ((with_reducible refine Below.alloc ?_ ?_ _); rotate_left; focus (first | omega | (simp; done) | (simp; omega))))))
  · go_wp2_with fail
    refine (l01Once_calls _ pb a cap l _ HC1.out (by decide) (by decide)).mono ?_
    rintro e w2 ⟨x2, rfl, hc2, ho2⟩
    have hz2 := ho2.size
    have HZ2 := Lib.hid (HZ1.out.only ho2 (.inr (by omega)))
    have HC2 := Lib.hid hc2; clear hc2; have HO2 := Lib.hid ho2; clear ho2
    go_wp2_with fail
    refine (leafBool _ _).mono ?_
    rintro e w3 ⟨k3, n3, s3, a3, c3, m3, rfl, hi3, hm3, hw3, hb3⟩
    obtain ⟨r0, r1, r2, r3, g0, g1, g2, g3⟩ := HZ2.out.below hb3 (by omega)
    have hc3 := HC2.out.below hb3
    have ho3 := (HOO.out.trans HO2.out).thenBelow (hb3.mono (by omega))
    have HI3 := Lib.hid hi3; clear hi3; have HW3 := Lib.hid hw3; clear hw3; have HM3 := Lib.hid hm3; clear hm3; have HC3 := Lib.hid hc3; clear hc3; have HO3 := Lib.hid ho3; clear ho3; have HB3 := Lib.hid hb3; clear hb3
    go_wp2_with fail
    refine bodyPost_ret (v := .agg #[.int .i64 k3, .int .i64 n3, .string s3, .slice a3 m3.length c3]) (by simp [results, Try.results101, go_sem, r0, r1, r2, r3]) rfl ?_
    refine ⟨k3, n3, s3, [], a3, c3, m3, rfl, HI3.out, ?_, HW3.out, by simp [Dat.countL]; exact nB_pos _, ?_, ?_⟩
    · (exact M.Mine.mono (M.Mine.keep HM3.out (fun b hb1 hb2 => by (try simp at hb1); simp (disch := (first | omega | (simp; omega))) only [heapSet, heapNew, heapDrew, heapDrewN])) (by first | omega | (simp; done) | (simp; omega)))
    · exact HC3.out.belowB (B := w.heap.size) (by (repeat (first | with_reducible assumption | with_reducible exact Below.refl _ _ | with_reducible refine Below.drew ?_ | with_reducible refine belowDrewN ?_ _ | ((with_reducible refine Below.setCell ?_ ?_ _); rotate_left; focus (first | omega | (simp; done) | (simp; omega))) | ((with_reducible refine Below.alloc ?_ ?_ _); rotate_left; focus (first | omega | (simp; done) | (simp; omega)))))) hpl
    · exact HO3.out.thenBelow (by (repeat (first | with_reducible assumption | with_reducible exact Below.refl _ _ | with_reducible refine Below.drew ?_ | with_reducible refine belowDrewN ?_ _ | ((with_reducible refine Below.setCell ?_ ?_ _); rotate_left; focus (first | omega | (simp; done) | (simp; omega))) | ((with_reducible refine Below.alloc ?_ ?_ _); rotate_left; focus (first | omega | (simp; done) | (simp; omega))))))
  · go_wp2_with fail
    refine (l01Pick_lit _ _ pb a cap l _ HC1.out ?size (by decide) (by decide) ?texts).mono ?_
    case size => rfl
    case texts => exact Texts.of (by rfl)
    rintro e w2 ⟨x2, rfl, hx2, hc2, ho2⟩
    have hz2 := ho2.size
    have HZ2 := Lib.hid (HZ1.out.only ho2 (.inr (by omega)))
    have HC2 := Lib.hid hc2; clear hc2; have HO2 := Lib.hid ho2; clear ho2
    go_wp2_with fail
    refine (leafStr _ _ hx2).mono ?_
    rintro e w3 ⟨k3, n3, s3, a3, c3, m3, rfl, hi3, hm3, hw3, hb3⟩
    obtain ⟨r0, r1, r2, r3, g0, g1, g2, g3⟩ := HZ2.out.below hb3 (by omega)
    have hc3 := HC2.out.below hb3
    have ho3 := (HOO.out.trans HO2.out).thenBelow (hb3.mono (by omega))
    have HI3 := Lib.hid hi3; clear hi3; have HW3 := Lib.hid hw3; clear hw3; have HM3 := Lib.hid hm3; clear hm3; have HC3 := Lib.hid hc3; clear hc3; have HO3 := Lib.hid ho3; clear ho3; have HB3 := Lib.hid hb3; clear hb3
    go_wp2_with fail
    refine bodyPost_ret (v := .agg #[.int .i64 k3, .int .i64 n3, .string s3, .slice a3 m3.length c3]) (by simp [results, Try.results101, go_sem, r0, r1, r2, r3]) rfl ?_
    refine ⟨k3, n3, s3, [], a3, c3, m3, rfl, HI3.out, ?_, HW3.out, by simp [Dat.countL]; exact nB_pos _, ?_, ?_⟩
    · (exact M.Mine.mono (M.Mine.keep HM3.out (fun b hb1 hb2 => by (try simp at hb1); simp (disch := (first | omega | (simp; omega))) only [heapSet, heapNew, heapDrew, heapDrewN])) (by first | omega | (simp; done) | (simp; omega)))
    · exact HC3.out.belowB (B := w.heap.size) (by (repeat (first | with_reducible assumption | with_reducible exact Below.refl _ _ | with_reducible refine Below.drew ?_ | with_reducible refine belowDrewN ?_ _ | ((with_reducible refine Below.setCell ?_ ?_ _); rotate_left; focus (first | omega | (simp; done) | (simp; omega))) | ((with_reducible refine Below.alloc ?_ ?_ _); rotate_left; focus (first | omega | (simp; done) | (simp; omega)))))) hpl
    · exact HO3.out.thenBelow (by (repeat (first | with_reducible assumption | with_reducible exact Below.refl _ _ | with_reducible refine Below.drew ?_ | with_reducible refine belowDrewN ?_ _ | ((with_reducible refine Below.setCell ?_ ?_ _); rotate_left; focus (first | omega | (simp; done) | (simp; omega))) | ((with_reducible refine Below.alloc ?_ ?_ _); rotate_left; focus (first | omega | (simp; done) | (simp; omega))))))
  · go_wp2_with fail
    refine (l01Pick_lit _ _ pb a cap l _ HC1.out ?size (by decide) (by decide) ?texts).mono ?_
    case size => rfl
    case texts => exact Texts.of (by rfl)
    rintro e w2 ⟨x2, rfl, hx2, hc2, ho2⟩
    have hz2 := ho2.size
    have HZ2 := Lib.hid (HZ1.out.only ho2 (.inr (by omega)))
    have HC2 := Lib.hid hc2; clear hc2; have HO2 := Lib.hid ho2; clear ho2
    go_wp2_with fail
    refine (leafSym _ _ hx2).mono ?_
    rintro e w3 ⟨k3, n3, s3, a3, c3, m3, rfl, hi3, hm3, hw3, hb3⟩
    obtain ⟨r0, r1, r2, r3, g0, g1, g2, g3⟩ := HZ2.out.below hb3 (by omega)
    have hc3 := HC2.out.below hb3
    have ho3 := (HOO.out.trans HO2.out).thenBelow (hb3.mono (by omega))
    have HI3 := Lib.hid hi3; clear hi3; have HW3 := Lib.hid hw3; clear hw3; have HM3 := Lib.hid hm3; clear hm3; have HC3 := Lib.hid hc3; clear hc3; have HO3 := Lib.hid ho3; clear ho3; have HB3 := Lib.hid hb3; clear hb3
    go_wp2_with fail
    refine bodyPost_ret (v := .agg #[.int .i64 k3, .int .i64 n3, .string s3, .slice a3 m3.length c3]) (by simp [results, Try.results101, go_sem, r0, r1, r2, r3]) rfl ?_
    refine ⟨k3, n3, s3, [], a3, c3, m3, rfl, HI3.out, ?_, HW3.out, by simp [Dat.countL]; exact nB_pos _, ?_, ?_⟩
    · (exact M.Mine.mono (M.Mine.keep HM3.out (fun b hb1 hb2 => by (try simp at hb1); simp (disch := (first | omega | (simp; omega))) only [heapSet, heapNew, heapDrew, heapDrewN])) (by first | omega | (simp; done) | (simp; omega)))
    · exact HC3.out.belowB (B := w.heap.size) (by (repeat (first | with_reducible assumption | with_reducible exact Below.refl _ _ | with_reducible refine Below.drew ?_ | with_reducible refine belowDrewN ?_ _ | ((with_reducible refine Below.setCell ?_ ?_ _); rotate_left; focus (first | omega | (simp; done) | (simp; omega))) | ((with_reducible refine Below.alloc ?_ ?_ _); rotate_left; focus (first | omega | (simp; done) | (simp; omega)))))) hpl
    · exact HO3.out.thenBelow (by (repeat (first | with_reducible assumption | with_reducible exact Below.refl _ _ | with_reducible refine Below.drew ?_ | with_reducible refine belowDrewN ?_ _ | ((with_reducible refine Below.setCell ?_ ?_ _); rotate_left; focus (first | omega | (simp; done) | (simp; omega))) | ((with_reducible refine Below.alloc ?_ ?_ _); rotate_left; focus (first | omega | (simp; done) | (simp; omega))))))
  · go_wp2_with fail
    refine (l01Int_lit _ _ pb a cap l _ HC1.out ?size (by decide) (by decide) ?texts).mono ?_
    case size => rfl
    case texts => exact Nums.of (by rfl)
    rintro e w2 ⟨x2, rfl, hx2, hc2, ho2⟩
    have hz2 := ho2.size
    have HZ2 := Lib.hid (HZ1.out.only ho2 (.inr (by omega)))
    have HC2 := Lib.hid hc2; clear hc2; have HO2 := Lib.hid ho2; clear ho2
    go_wp2_with fail
    refine (leafNum _ _ hx2).mono ?_
    rintro e w3 ⟨k3, n3, s3, a3, c3, m3, rfl, hi3, hm3, hw3, hb3⟩
    obtain ⟨r0, r1, r2, r3, g0, g1, g2, g3⟩ := HZ2.out.below hb3 (by omega)
    have hc3 := HC2.out.below hb3
    have ho3 := (HOO.out.trans HO2.out).thenBelow (hb3.mono (by omega))
    have HI3 := Lib.hid hi3; clear hi3; have HW3 := Lib.hid hw3; clear hw3; have HM3 := Lib.hid hm3; clear hm3; have HC3 := Lib.hid hc3; clear hc3; have HO3 := Lib.hid ho3; clear ho3; have HB3 := Lib.hid hb3; clear hb3
    go_wp2_with fail
    refine bodyPost_ret (v := .agg #[.int .i64 k3, .int .i64 n3, .string s3, .slice a3 m3.length c3]) (by simp [results, Try.results101, go_sem, r0, r1, r2, r3]) rfl ?_
    refine ⟨k3, n3, s3, [], a3, c3, m3, rfl, HI3.out, ?_, HW3.out, by simp [Dat.countL]; exact nB_pos _, ?_, ?_⟩
    · (exact M.Mine.mono (M.Mine.keep HM3.out (fun b hb1 hb2 => by (try simp at hb1); simp (disch := (first | omega | (simp; omega))) only [heapSet, heapNew, heapDrew, heapDrewN])) (by first | omega | (simp; done) | (simp; omega)))
    · exact HC3.out.belowB (B := w.heap.size) (by (repeat (first | with_reducible assumption | with_reducible exact Below.refl _ _ | with_reducible refine Below.drew ?_ | with_reducible refine belowDrewN ?_ _ | ((with_reducible refine Below.setCell ?_ ?_ _); rotate_left; focus (first | omega | (simp; done) | (simp; omega))) | ((with_reducible refine Below.alloc ?_ ?_ _); rotate_left; focus (first | omega | (simp; done) | (simp; omega)))))) hpl
    · exact HO3.out.thenBelow (by (repeat (first | with_reducible assumption | with_reducible exact Below.refl _ _ | with_reducible refine Below.drew ?_ | with_reducible refine belowDrewN ?_ _ | ((with_reducible refine Below.setCell ?_ ?_ _); rotate_left; focus (first | omega | (simp; done) | (simp; omega))) | ((with_reducible refine Below.alloc ?_ ?_ _); rotate_left; focus (first | omega | (simp; done) | (simp; omega))))))
  · go_wp2_with fail
    refine (l01Int_lit _ _ pb a cap l _ HC1.out ?size (by decide) (by decide) ?texts).mono ?_
    case size => rfl
    case texts => exact Nums.of (by rfl)
    rintro e w2 ⟨x2, rfl, hx2, hc2, ho2⟩
    have hz2 := ho2.size
    have HZ2 := Lib.hid (HZ1.out.only ho2 (.inr (by omega)))
    have HC2 := Lib.hid hc2; clear hc2; have HO2 := Lib.hid ho2; clear ho2
    go_wp2_with fail
    refine (leafNum _ _ hx2).mono ?_
    rintro e w3 ⟨k3, n3, s3, a3, c3, m3, rfl, hi3, hm3, hw3, hb3⟩
    obtain ⟨r0, r1, r2, r3, g0, g1, g2, g3⟩ := HZ2.out.below hb3 (by omega)
    have hc3 := HC2.out.below hb3
    have ho3 := (HOO.out.trans HO2.out).thenBelow (hb3.mono (by omega))
    have HI3 := Lib.hid hi3; clear hi3; have HW3 := Lib.hid hw3; clear hw3; have HM3 := Lib.hid hm3; clear hm3; have HC3 := Lib.hid hc3; clear hc3; have HO3 := Lib.hid ho3; clear ho3; have HB3 := Lib.hid hb3; clear hb3
    go_wp2_with fail
    refine bodyPost_ret (v := .agg #[.int .i64 k3, .int .i64 n3, .string s3, .slice a3 m3.length c3]) (by simp [results, Try.results101, go_sem, r0, r1, r2, r3]) rfl ?_
    refine ⟨k3, n3, s3, [], a3, c3, m3, rfl, HI3.out, ?_, HW3.out, by simp [Dat.countL]; exact nB_pos _, ?_, ?_⟩
    · (exact M.Mine.mono (M.Mine.keep HM3.out (fun b hb1 hb2 => by (try simp at hb1); simp (disch := (first | omega | (simp; omega))) only [heapSet, heapNew, heapDrew, heapDrewN])) (by first | omega | (simp; done) | (simp; omega)))
    · exact HC3.out.belowB (B := w.heap.size) (by (repeat (first | with_reducible assumption | with_reducible exact Below.refl _ _ | with_reducible refine Below.drew ?_ | with_reducible refine belowDrewN ?_ _ | ((with_reducible refine Below.setCell ?_ ?_ _); rotate_left; focus (first | omega | (simp; done) | (simp; omega))) | ((with_reducible refine Below.alloc ?_ ?_ _); rotate_left; focus (first | omega | (simp; done) | (simp; omega)))))) hpl
    · exact HO3.out.thenBelow (by (repeat (first | with_reducible assumption | with_reducible exact Below.refl _ _ | with_reducible refine Below.drew ?_ | with_reducible refine belowDrewN ?_ _ | ((with_reducible refine Below.setCell ?_ ?_ _); rotate_left; focus (first | omega | (simp; done) | (simp; omega))) | ((with_reducible refine Below.alloc ?_ ?_ _); rotate_left; focus (first | omega | (simp; done) | (simp; omega))))))
theorem wfL_snoc : ∀ {ds : List Dat} {d : Dat}, Dat.wfL ds → d.wf → Dat.wfL (ds ++ [d])
  | [], _, _, h => ⟨h, trivial⟩
  | _ :: _, _, h, k => ⟨h.1, wfL_snoc h.2 k⟩
set_option maxHeartbeats 4000000 in
theorem l1Draw_deep (d : Nat) (hd0 : 0 < d) (hd9 : d ≤ 100) (ih : DrD d) : DrD (d + 1) := by
  intro pb a cap l w hc
  have hd1 : ¬ ((d + 1 : Nat) : Int) ≤ 1 := by omega
  have hd2 : ((d + 1 : Nat) : Int) - 1 = (d : Int) := by omega
  have IH := Lib.hid ih; clear ih
  have hpl := hc.lt
  have HC := Lib.hid hc; clear hc
  go_enter Try.func101, Try.ntmps101
  go_wp2_with fail
  refine (l01Below_calls 9 pb a cap l _ (HC.out.below (by (repeat (first | with_reducible assumption | with_reducible exact Below.refl _ _ | with_reducible refine Below.drew ?_ | with_reducible refine belowDrewN ?_ _ | ((with_reducible refine Below.setCell ?_ ?_ _); rotate_left; focus (first | omega | (simp; done) | (simp; omega))) | ((with_reducible refine Below.alloc ?_ ?_ _); rotate_left; focus (first | omega | (simp; done) | (simp; omega))))))) (by decide) (by decide)).mono ?_
  rintro e w1 ⟨x, rfl, hx0, hx1, hc1, ho1⟩
  have hz1 := ho1.size
  simp only [World.size_alloc] at hz1
  have hzz := (Zero.new w).only ho1 (.inr (by omega))
  have hoo : OnlyIn pb (pb + 1) w w1 := ((OnlyIn.refl _ _ _).new _).trans ho1
  have HZ1 := Lib.hid hzz; clear hzz
  have HC1 := Lib.hid hc1; clear hc1; have HO1 := Lib.hid ho1; clear ho1; have HOO := Lib.hid hoo; clear hoo
  by_cases hx5 : x ≤ 5
  · have hx : x = 0 ∨ x = 1 ∨ x = 2 ∨ x = 3 ∨ x = 4 ∨ x = 5 := by omega
    clear hx0 hx1 hx5
    rcases hx with rfl | rfl | rfl | rfl | rfl | rfl
    · go_wp2_with fail
      refine (l01Pick_lit _ _ pb a cap l _ HC1.out ?size (by decide) (by decide) ?texts).mono ?_
      case size => rfl
      case texts => exact Texts.of (by rfl)
      rintro e w2 ⟨x2, rfl, hx2, hc2, ho2⟩
      have hz2 := ho2.size
      have HZ2 := Lib.hid (HZ1.out.only ho2 (.inr (by omega)))
      have HC2 := Lib.hid hc2; clear hc2; have HO2 := Lib.hid ho2; clear ho2
      go_wp2_with fail
      refine (leafSym _ _ hx2).mono ?_
      rintro e w3 ⟨k3, n3, s3, a3, c3, m3, rfl, hi3, hm3, hw3, hb3⟩
      obtain ⟨r0, r1, r2, r3, g0, g1, g2, g3⟩ := HZ2.out.below hb3 (by omega)
      have hc3 := HC2.out.below hb3
      have ho3 := (HOO.out.trans HO2.out).thenBelow (hb3.mono (by omega))
      have HI3 := Lib.hid hi3; clear hi3; have HW3 := Lib.hid hw3; clear hw3; have HM3 := Lib.hid hm3; clear hm3; have HC3 := Lib.hid hc3; clear hc3; have HO3 := Lib.hid ho3; clear ho3; have HB3 := Lib.hid hb3; clear hb3
      go_wp2_with fail
      refine bodyPost_ret (v := .agg #[.int .i64 k3, .int .i64 n3, .string s3, .slice a3 m3.length c3]) (by simp [results, Try.results101, go_sem, r0, r1, r2, r3]) rfl ?_
      refine ⟨k3, n3, s3, [], a3, c3, m3, rfl, HI3.out, ?_, HW3.out, by simp [Dat.countL]; exact nB_pos _, ?_, ?_⟩
      · (exact M.Mine.mono (M.Mine.keep HM3.out (fun b hb1 hb2 => by (try simp at hb1); simp (disch := (first | omega | (simp; omega))) only [heapSet, heapNew, heapDrew, heapDrewN])) (by first | omega | (simp; done) | (simp; omega)))
      · exact HC3.out.belowB (B := w.heap.size) (by (repeat (first | with_reducible assumption | with_reducible exact Below.refl _ _ | with_reducible refine Below.drew ?_ | with_reducible refine belowDrewN ?_ _ | ((with_reducible refine Below.setCell ?_ ?_ _); rotate_left; focus (first | omega | (simp; done) | (simp; omega))) | ((with_reducible refine Below.alloc ?_ ?_ _); rotate_left; focus (first | omega | (simp; done) | (simp; omega)))))) hpl
      · exact HO3.out.thenBelow (by (repeat (first | with_reducible assumption | with_reducible exact Below.refl _ _ | with_reducible refine Below.drew ?_ | with_reducible refine belowDrewN ?_ _ | ((with_reducible refine Below.setCell ?_ ?_ _); rotate_left; focus (first | omega | (simp; done) | (simp; omega))) | ((with_reducible refine Below.alloc ?_ ?_ _); rotate_left; focus (first | omega | (simp; done) | (simp; omega))))))
    · go_wp2_with fail
      refine (l01Pick_lit _ _ pb a cap l _ HC1.out ?size (by decide) (by decide) ?texts).mono ?_
      case size => rfl
      case texts => exact Texts.of (by rfl)
      rintro e w2 ⟨x2, rfl, hx2, hc2, ho2⟩
      have hz2 := ho2.size
      have HZ2 := Lib.hid (HZ1.out.only ho2 (.inr (by omega)))
      have HC2 := Lib.hid hc2; clear hc2; have HO2 := Lib.hid ho2; clear ho2
      go_wp2_with fail
      refine (leafSym _ _ hx2).mono ?_
      rintro e w3 ⟨k3, n3, s3, a3, c3, m3, rfl, hi3, hm3, hw3, hb3⟩
      obtain ⟨r0, r1, r2, r3, g0, g1, g2, g3⟩ := HZ2.out.below hb3 (by omega)
      have hc3 := HC2.out.below hb3
      have ho3 := (HOO.out.trans HO2.out).thenBelow (hb3.mono (by omega))
      have HI3 := Lib.hid hi3; clear hi3; have HW3 := Lib.hid hw3; clear hw3; have HM3 := Lib.hid hm3; clear hm3; have HC3 := Lib.hid hc3; clear hc3; have HO3 := Lib.hid ho3; clear ho3; have HB3 := Lib.hid hb3; clear hb3
      go_wp2_with fail
      refine bodyPost_ret (v := .agg #[.int .i64 k3, .int .i64 n3, .string s3, .slice a3 m3.length c3]) (by simp [results, Try.results101, go_sem, r0, r1, r2, r3]) rfl ?_
      refine ⟨k3, n3, s3, [], a3, c3, m3, rfl, HI3.out, ?_, HW3.out, by simp [Dat.countL]; exact nB_pos _, ?_, ?_⟩
      · (exact M.Mine.mono (M.Mine.keep HM3.out (fun b hb1 hb2 => by (try simp at hb1); simp (disch := (first | omega | (simp; omega))) only [heapSet, heapNew, heapDrew, heapDrewN])) (by first | omega | (simp; done) | (simp; omega)))
      · exact HC3.out.belowB (B := w.heap.size) (by (repeat (first | with_reducible assumption | with_reducible exact Below.refl _ _ | with_reducible refine Below.drew ?_ | with_reducible refine belowDrewN ?_ _ | ((with_reducible refine Below.setCell ?_ ?_ _); rotate_left; focus (first | omega | (simp; done) | (simp; omega))) | ((with_reducible refine Below.alloc ?_ ?_ _); rotate_left; focus (first | omega | (simp; done) | (simp; omega)))))) hpl
      · exact HO3.out.thenBelow (by (repeat (first | with_reducible assumption | with_reducible exact Below.refl _ _ | with_reducible refine Below.drew ?_ | with_reducible refine belowDrewN ?_ _ | ((with_reducible refine Below.setCell ?_ ?_ _); rotate_left; focus (first | omega | (simp; done) | (simp; omega))) | ((with_reducible refine Below.alloc ?_ ?_ _); rotate_left; focus (first | omega | (simp; done) | (simp; omega))))))
    · go_wp2_with fail
      refine (l01Int_lit _ _ pb a cap l _ HC1.out ?size (by decide) (by decide) ?texts).mono ?_
      case size => rfl
      case texts => exact Nums.of (by rfl)
      rintro e w2 ⟨x2, rfl, hx2, hc2, ho2⟩
      have hz2 := ho2.size
      have HZ2 := Lib.hid (HZ1.out.only ho2 (.inr (by omega)))
      have HC2 := Lib.hid hc2; clear hc2; have HO2 := Lib.hid ho2; clear ho2
      go_wp2_with fail
      refine (leafNum _ _ hx2).mono ?_
      rintro e w3 ⟨k3, n3, s3, a3, c3, m3, rfl, hi3, hm3, hw3, hb3⟩
      obtain ⟨r0, r1, r2, r3, g0, g1, g2, g3⟩ := HZ2.out.below hb3 (by omega)
      have hc3 := HC2.out.below hb3
      have ho3 := (HOO.out.trans HO2.out).thenBelow (hb3.mono (by omega))
      have HI3 := Lib.hid hi3; clear hi3; have HW3 := Lib.hid hw3; clear hw3; have HM3 := Lib.hid hm3; clear hm3; have HC3 := Lib.hid hc3; clear hc3; have HO3 := Lib.hid ho3; clear ho3; have HB3 := Lib.hid hb3; clear hb3
      go_wp2_with fail
      refine bodyPost_ret (v := .agg #[.int .i64 k3, .int .i64 n3, .string s3, .slice a3 m3.length c3]) (by simp [results, Try.results101, go_sem, r0, r1, r2, r3]) rfl ?_
      refine ⟨k3, n3, s3, [], a3, c3, m3, rfl, HI3.out, ?_, HW3.out, by simp [Dat.countL]; exact nB_pos _, ?_, ?_⟩
      · (exact M.Mine.mono (M.Mine.keep HM3.out (fun b hb1 hb2 => by (try simp at hb1); simp (disch := (first | omega | (simp; omega))) only [heapSet, heapNew, heapDrew, heapDrewN])) (by first | omega | (simp; done) | (simp; omega)))
      · exact HC3.out.belowB (B := w.heap.size) (by (repeat (first | with_reducible assumption | with_reducible exact Below.refl _ _ | with_reducible refine Below.drew ?_ | with_reducible refine belowDrewN ?_ _ | ((with_reducible refine Below.setCell ?_ ?_ _); rotate_left; focus (first | omega | (simp; done) | (simp; omega))) | ((with_reducible refine Below.alloc ?_ ?_ _); rotate_left; focus (first | omega | (simp; done) | (simp; omega)))))) hpl
      · exact HO3.out.thenBelow (by (repeat (first | with_reducible assumption | with_reducible exact Below.refl _ _ | with_reducible refine Below.drew ?_ | with_reducible refine belowDrewN ?_ _ | ((with_reducible refine Below.setCell ?_ ?_ _); rotate_left; focus (first | omega | (simp; done) | (simp; omega))) | ((with_reducible refine Below.alloc ?_ ?_ _); rotate_left; focus (first | omega | (simp; done) | (simp; omega))))))
    · go_wp2_with fail
      refine (l01Int_lit _ _ pb a cap l _ HC1.out ?size (by decide) (by decide) ?texts).mono ?_
      case size => rfl
      case texts => exact Nums.of (by rfl)
      rintro e w2 ⟨x2, rfl, hx2, hc2, ho2⟩
      have hz2 := ho2.size
      have HZ2 := Lib.hid (HZ1.out.only ho2 (.inr (by omega)))
      have HC2 := Lib.hid hc2; clear hc2; have HO2 := Lib.hid ho2; clear ho2
      go_wp2_with fail
      refine (leafNum _ _ hx2).mono ?_
      rintro e w3 ⟨k3, n3, s3, a3, c3, m3, rfl, hi3, hm3, hw3, hb3⟩
      obtain ⟨r0, r1, r2, r3, g0, g1, g2, g3⟩ := HZ2.out.below hb3 (by omega)
      have hc3 := HC2.out.below hb3
      have ho3 := (HOO.out.trans HO2.out).thenBelow (hb3.mono (by omega))
      have HI3 := Lib.hid hi3; clear hi3; have HW3 := Lib.hid hw3; clear hw3; have HM3 := Lib.hid hm3; clear hm3; have HC3 := Lib.hid hc3; clear hc3; have HO3 := Lib.hid ho3; clear ho3; have HB3 := Lib.hid hb3; clear hb3
      go_wp2_with fail
      refine bodyPost_ret (v := .agg #[.int .i64 k3, .int .i64 n3, .string s3, .slice a3 m3.length c3]) (by simp [results, Try.results101, go_sem, r0, r1, r2, r3]) rfl ?_
      refine ⟨k3, n3, s3, [], a3, c3, m3, rfl, HI3.out, ?_, HW3.out, by simp [Dat.countL]; exact nB_pos _, ?_, ?_⟩
      · (exact M.Mine.mono (M.Mine.keep HM3.out (fun b hb1 hb2 => by (try simp at hb1); simp (disch := (first | omega | (simp; omega))) only [heapSet, heapNew, heapDrew, heapDrewN])) (by first | omega | (simp; done) | (simp; omega)))
      · exact HC3.out.belowB (B := w.heap.size) (by (repeat (first | with_reducible assumption | with_reducible exact Below.refl _ _ | with_reducible refine Below.drew ?_ | with_reducible refine belowDrewN ?_ _ | ((with_reducible refine Below.setCell ?_ ?_ _); rotate_left; focus (first | omega | (simp; done) | (simp; omega))) | ((with_reducible refine Below.alloc ?_ ?_ _); rotate_left; focus (first | omega | (simp; done) | (simp; omega)))))) hpl
      · exact HO3.out.thenBelow (by (repeat (first | with_reducible assumption | with_reducible exact Below.refl _ _ | with_reducible refine Below.drew ?_ | with_reducible refine belowDrewN ?_ _ | ((with_reducible refine Below.setCell ?_ ?_ _); rotate_left; focus (first | omega | (simp; done) | (simp; omega))) | ((with_reducible refine Below.alloc ?_ ?_ _); rotate_left; focus (first | omega | (simp; done) | (simp; omega))))))
    · go_wp2_with fail
      refine (l01Once_calls _ pb a cap l _ HC1.out (by decide) (by decide)).mono ?_
      rintro e w2 ⟨x2, rfl, hc2, ho2⟩
      have hz2 := ho2.size
      have HZ2 := Lib.hid (HZ1.out.only ho2 (.inr (by omega)))
      have HC2 := Lib.hid hc2; clear hc2; have HO2 := Lib.hid ho2; clear ho2
      go_wp2_with fail
      refine (leafBool _ _).mono ?_
      rintro e w3 ⟨k3, n3, s3, a3, c3, m3, rfl, hi3, hm3, hw3, hb3⟩
      obtain ⟨r0, r1, r2, r3, g0, g1, g2, g3⟩ := HZ2.out.below hb3 (by omega)
      have hc3 := HC2.out.below hb3
      have ho3 := (HOO.out.trans HO2.out).thenBelow (hb3.mono (by omega))
      have HI3 := Lib.hid hi3; clear hi3; have HW3 := Lib.hid hw3; clear hw3; have HM3 := Lib.hid hm3; clear hm3; have HC3 := Lib.hid hc3; clear hc3; have HO3 := Lib.hid ho3; clear ho3; have HB3 := Lib.hid hb3; clear hb3
      go_wp2_with fail
      refine bodyPost_ret (v := .agg #[.int .i64 k3, .int .i64 n3, .string s3, .slice a3 m3.length c3]) (by simp [results, Try.results101, go_sem, r0, r1, r2, r3]) rfl ?_
      refine ⟨k3, n3, s3, [], a3, c3, m3, rfl, HI3.out, ?_, HW3.out, by simp [Dat.countL]; exact nB_pos _, ?_, ?_⟩
      · (exact M.Mine.mono (M.Mine.keep HM3.out (fun b hb1 hb2 => by (try simp at hb1); simp (disch := (first | omega | (simp; omega))) only [heapSet, heapNew, heapDrew, heapDrewN])) (by first | omega | (simp; done) | (simp; omega)))
      · exact HC3.out.belowB (B := w.heap.size) (by (repeat (first | with_reducible assumption | with_reducible exact Below.refl _ _ | with_reducible refine Below.drew ?_ | with_reducible refine belowDrewN ?_ _ | ((with_reducible refine Below.setCell ?_ ?_ _); rotate_left; focus (first | omega | (simp; done) | (simp; omega))) | ((with_reducible refine Below.alloc ?_ ?_ _); rotate_left; focus (first | omega | (simp; done) | (simp; omega)))))) hpl
      · exact HO3.out.thenBelow (by (repeat (first | with_reducible assumption | with_reducible exact Below.refl _ _ | with_reducible refine Below.drew ?_ | with_reducible refine belowDrewN ?_ _ | ((with_reducible refine Below.setCell ?_ ?_ _); rotate_left; focus (first | omega | (simp; done) | (simp; omega))) | ((with_reducible refine Below.alloc ?_ ?_ _); rotate_left; focus (first | omega | (simp; done) | (simp; omega))))))
    · go_wp2_with fail
      refine (l01Pick_lit _ _ pb a cap l _ HC1.out ?size (by decide) (by decide) ?texts).mono ?_
      case size => rfl
      case texts => exact Texts.of (by rfl)
      rintro e w2 ⟨x2, rfl, hx2, hc2, ho2⟩
      have hz2 := ho2.size
      have HZ2 := Lib.hid (HZ1.out.only ho2 (.inr (by omega)))
      have HC2 := Lib.hid hc2; clear hc2; have HO2 := Lib.hid ho2; clear ho2
      go_wp2_with fail
      refine (leafStr _ _ hx2).mono ?_
      rintro e w3 ⟨k3, n3, s3, a3, c3, m3, rfl, hi3, hm3, hw3, hb3⟩
      obtain ⟨r0, r1, r2, r3, g0, g1, g2, g3⟩ := HZ2.out.below hb3 (by omega)
      have hc3 := HC2.out.below hb3
      have ho3 := (HOO.out.trans HO2.out).thenBelow (hb3.mono (by omega))
      have HI3 := Lib.hid hi3; clear hi3; have HW3 := Lib.hid hw3; clear hw3; have HM3 := Lib.hid hm3; clear hm3; have HC3 := Lib.hid hc3; clear hc3; have HO3 := Lib.hid ho3; clear ho3; have HB3 := Lib.hid hb3; clear hb3
      go_wp2_with fail
      refine bodyPost_ret (v := .agg #[.int .i64 k3, .int .i64 n3, .string s3, .slice a3 m3.length c3]) (by simp [results, Try.results101, go_sem, r0, r1, r2, r3]) rfl ?_
      refine ⟨k3, n3, s3, [], a3, c3, m3, rfl, HI3.out, ?_, HW3.out, by simp [Dat.countL]; exact nB_pos _, ?_, ?_⟩
      · (exact M.Mine.mono (M.Mine.keep HM3.out (fun b hb1 hb2 => by (try simp at hb1); simp (disch := (first | omega | (simp; omega))) only [heapSet, heapNew, heapDrew, heapDrewN])) (by first | omega | (simp; done) | (simp; omega)))
      · exact HC3.out.belowB (B := w.heap.size) (by (repeat (first | with_reducible assumption | with_reducible exact Below.refl _ _ | with_reducible refine Below.drew ?_ | with_reducible refine belowDrewN ?_ _ | ((with_reducible refine Below.setCell ?_ ?_ _); rotate_left; focus (first | omega | (simp; done) | (simp; omega))) | ((with_reducible refine Below.alloc ?_ ?_ _); rotate_left; focus (first | omega | (simp; done) | (simp; omega)))))) hpl
      · exact HO3.out.thenBelow (by (repeat (first | with_reducible assumption | with_reducible exact Below.refl _ _ | with_reducible refine Below.drew ?_ | with_reducible refine belowDrewN ?_ _ | ((with_reducible refine Below.setCell ?_ ?_ _); rotate_left; focus (first | omega | (simp; done) | (simp; omega))) | ((with_reducible refine Below.alloc ?_ ?_ _); rotate_left; focus (first | omega | (simp; done) | (simp; omega))))))
  · have y0 : (x == 0) = false := by simp; omega
    have y1 : (x == 1) = false := by simp; omega
    have y2 : (x == 2) = false := by simp; omega
    have y3 : (x == 3) = false := by simp; omega
    have y4 : (x == 4) = false := by simp; omega
    have y5 : (x == 5) = false := by simp; omega
    have HX5 := Lib.hid hx5; clear hx5; have HX0 := Lib.hid hx0; clear hx0; have HX1 := Lib.hid hx1; clear hx1
    go_wp2_with fail
    refine (l01Below_calls 5 pb a cap l _ (HC1.out.below (by (repeat (first | with_reducible assumption | with_reducible exact Below.refl _ _ | with_reducible refine Below.drew ?_ | with_reducible refine belowDrewN ?_ _ | ((with_reducible refine Below.setCell ?_ ?_ _); rotate_left; focus (first | omega | (simp; done) | (simp; omega))) | ((with_reducible refine Below.alloc ?_ ?_ _); rotate_left; focus (first | omega | (simp; done) | (simp; omega))))))) (by decide) (by decide)).mono ?_
    rintro e w2 ⟨y, rfl, hy0, hy1, hc2, ho2⟩
    obtain ⟨n0, rfl⟩ := Int.eq_ofNat_of_zero_le hy0
    have hz2 := ho2.size
    simp only [World.size_alloc] at hz2
    have hn4 : n0 ≤ 4 := by omega
    have ho12 : OnlyIn pb (pb + 1) w1 w2 := ((OnlyIn.refl _ _ _).new _).trans ho2
    have hz0 : Zero w.heap.size w2 := HZ1.out.only ho12 (.inr (by omega))
    have hzB : Zero w1.heap.size w2 := (Zero.new w1).only ho2 (.inr (by omega))
    have hzBs : w2.cell? ⟨w1.heap.size, 0, none⟩ = some (.int .i64 0) ∧ w2.cell? ⟨w1.heap.size, 1, none⟩ = some (.int .i64 0) ∧ w2.cell? ⟨w1.heap.size, 2, none⟩ = some (.string ⟨#[]⟩) ∧ w2.cell? ⟨w1.heap.size, 3, none⟩ = some (.slice none 0 0) ∧ w2.frozen? ⟨w1.heap.size, 3, none⟩ = false := ⟨hzB.c0, hzB.c1, hzB.c2, hzB.c3, hzB.f3⟩
    have ho02 : OnlyIn pb (pb + 1) w w2 := HOO.out.trans ho12
    have hwl : Dat.wf1L [] := trivial
    clear hy0 hy1
    have HC2 := Lib.hid hc2; clear hc2; have HO2 := Lib.hid ho2; clear ho2; have HO12 := Lib.hid ho12; clear ho12; have HZ0 := Lib.hid hz0; clear hz0; have HZB := Lib.hid hzB; clear hzB; have HZBS := Lib.hid hzBs; clear hzBs; have HO02 := Lib.hid ho02; clear ho02
    go_wp2_with fail
    go_loopw [7] (fun i wr => ∃ (n : Nat) (a' : Option Addr) (cap' : Nat) (ms' : List M) (ds' : List Dat), i = .int .i64 n ∧ ms'.length + n ≤ 4 ∧ Dat.IsL 52 ds' ms' ∧ (M.sl a' cap' 4 52 ms').Mine wr (w1.heap.size + 1) ∧ Dat.wf1L ds' ∧ Dat.countL ds' ≤ ms'.length * nB d ∧
        (wr.cell? ⟨w1.heap.size, 0, none⟩ = some (.int .i64 0) ∧ wr.cell? ⟨w1.heap.size, 1, none⟩ = some (.int .i64 0) ∧ wr.cell? ⟨w1.heap.size, 2, none⟩ = some (.string ⟨#[]⟩) ∧ wr.cell? ⟨w1.heap.size, 3, none⟩ = some (.slice a' ms'.length cap') ∧ wr.frozen? ⟨w1.heap.size, 3, none⟩ = false) ∧
        Zero w.heap.size wr ∧ Cur pb a cap l wr ∧ OnlyIn pb (pb + 1) w wr ∧ w1.heap.size + 1 ≤ wr.heap.size) (fun i _ => (intOf i).toNat)
    case atStart => exact ⟨n0, none, 0, [], [], rfl, by simpa using hn4, by simp [Dat.IsL], M.Mine.nil _ _ _ _ (by decide), trivial, by simp [Dat.countL], HZBS.out, HZ0.out, HC2.out, HO02.out, by omega⟩
    case round =>
      obtain ⟨n, a', cap', ms', ds', rfl, hnm, hi', hm', hwl', hct', ⟨q0, q1, q2, q3, qf⟩, hzr, hcr, hor, hsz⟩ := hrel
      have p3 : w1.heap.size < wr.heap.size := by omega
      have hcap' := hm'.in_.len
      cases n with
      | zero =>
        have hwfin : (Dat.mk 0 0 ⟨#[]⟩ ds').wf1 := ⟨by unfold I64; omega, by unfold I64; omega, by decide, hwl'⟩
        have hcfin : 1 + Dat.countL ds' ≤ nB (d + 1) := by
          have := Nat.mul_le_mul_right (nB d) (show ms'.length ≤ 4 by omega)
          simp only [nB]; omega
        obtain ⟨r0, r1, r2, r3, g0, g1, g2, g3⟩ := hzr
        have HI' := Lib.hid hi'; clear hi'; have HM' := Lib.hid hm'; clear hm'; have HWL' := Lib.hid hwl'; clear hwl'; have HCT' := Lib.hid hct'; clear hct'; have HCR := Lib.hid hcr; clear hcr; have HOR := Lib.hid hor; clear hor; have HWFIN := Lib.hid hwfin; clear hwfin; have HCFIN := Lib.hid hcfin; clear hcfin; have HNM := Lib.hid hnm; clear hnm
        go_wp2_with fail
        refine bodyPost_ret (v := .agg #[.int .i64 0, .int .i64 0, .string ⟨#[]⟩, .slice a' ms'.length cap']) (by simp [results, Try.results101, go_sem, r0, r1, r2, r3]) rfl ?_
        refine ⟨0, 0, ⟨#[]⟩, ds', a', cap', ms', rfl, HI'.out, ?_, HWFIN.out, HCFIN.out, ?_, ?_⟩
        · (exact M.Mine.mono (M.Mine.keep HM'.out (fun b hb1 hb2 => by (try simp at hb1); simp (disch := (first | omega | (simp; omega))) only [heapSet, heapNew, heapDrew, heapDrewN])) (by first | omega | (simp; done) | (simp; omega)))
        · exact HCR.out.belowB (B := w.heap.size) (by (repeat (first | with_reducible assumption | with_reducible exact Below.refl _ _ | with_reducible refine Below.drew ?_ | with_reducible refine belowDrewN ?_ _ | ((with_reducible refine Below.setCell ?_ ?_ _); rotate_left; focus (first | omega | (simp; done) | (simp; omega))) | ((with_reducible refine Below.alloc ?_ ?_ _); rotate_left; focus (first | omega | (simp; done) | (simp; omega)))))) hpl
        · exact HOR.out.thenBelow (by (repeat (first | with_reducible assumption | with_reducible exact Below.refl _ _ | with_reducible refine Below.drew ?_ | with_reducible refine belowDrewN ?_ _ | ((with_reducible refine Below.setCell ?_ ?_ _); rotate_left; focus (first | omega | (simp; done) | (simp; omega))) | ((with_reducible refine Below.alloc ?_ ?_ _); rotate_left; focus (first | omega | (simp; done) | (simp; omega))))))
      | succ n =>
        have hpos : 0 < ((n + 1 : Nat) : Int) := by omega
        have hn9 : n ≤ 3 := by omega
        have hwd : IntKind.i64.wrap (d : Int) = (d : Int) := by rw [IntKind.wrap_i64]; omega
        have HI' := Lib.hid hi'; clear hi'; have HM' := Lib.hid hm'; clear hm'; have HWL' := Lib.hid hwl'; clear hwl'; have HCT' := Lib.hid hct'; clear hct'; have HCR := Lib.hid hcr; clear hcr; have HOR := Lib.hid hor; clear hor; have HZR := Lib.hid hzr; clear hzr; have HNM := Lib.hid hnm; clear hnm
        go_wp2_with fail
        go_region_law (first
          | (go_simp; go_at_call 101; (try simp only [hwd]); refine (IH.out pb a cap l _ (HCR.out.below (by (repeat (first | with_reducible assumption | with_reducible exact Below.refl _ _ | with_reducible refine Below.drew ?_ | with_reducible refine belowDrewN ?_ _ | ((with_reducible refine Below.setCell ?_ ?_ _); rotate_left; focus (first | omega | (simp; done) | (simp; omega))) | ((with_reducible refine Below.alloc ?_ ?_ _); rotate_left; focus (first | omega | (simp; done) | (simp; omega)))))))).mono ?_; rintro e w4 ⟨k4, n4, s4, ds4, a4, cap4, ms4, rfl, hi4, hm4, hw4, hct4, hc4, ho4⟩; have ho4' : OnlyIn pb (pb + 1) wr w4 := (by first | exact ho4 | exact ((OnlyIn.refl _ _ _).drew).trans ho4 | exact ((OnlyIn.refl _ _ _).drewN _).trans ho4); have hz4 := ho4'.size; have p3c : w1.heap.size < w4.heap.size := (by omega); have q3c : w4.cell? ⟨w1.heap.size, 3, none⟩ = some (.slice a' ms'.length cap') := ((World.cell?_of_block (ho4'.block w1.heap.size p3 (.inr (by omega)))).trans q3); have qfc : w4.frozen? ⟨w1.heap.size, 3, none⟩ = false := ((World.frozen?_of_block (ho4'.block w1.heap.size p3 (.inr (by omega)))).trans qf))
          | (refine step_push3 (wr := wr) rfl _ _ 50 rfl 52 _ 4 56 Try.underlying50 infoDat rfl (by decide) (w1.heap.size + 1) a' cap' ms' rfl HM'.out hsz hz4 (fun b h1 h2 => ho4'.block b h2 (.inr (by omega))) _ (.ag [.c (.int .i64 k4), .c (.int .i64 n4), .c (.string s4), .sl a4 cap4 4 52 ms4]) rfl rfl _ (Dat.mine hm4) (by first | exact Nat.le_refl _ | (simp; done)) rfl (by have := HNM.out; unfold maxLen; omega) (by have := HNM.out; omega) ?_; intro a5 cap5 w5 hm5 hb5 hz5 hfr5; have p5c : w1.heap.size < w5.heap.size := (by omega); have q3' : w5.cell? ⟨w1.heap.size, 3, none⟩ = some (.slice a' ms'.length cap') := ((World.cell?_of_block (hb5.block w1.heap.size (by omega))).trans q3c); have qf' : w5.frozen? ⟨w1.heap.size, 3, none⟩ = false := ((World.frozen?_of_block (hb5.block w1.heap.size (by omega))).trans qfc)))
        all_goals
          have kB := (hb5.block w1.heap.size (by omega)).trans (ho4'.block w1.heap.size p3 (.inr (by omega)))
          have q0' : w5.cell? ⟨w1.heap.size, 0, none⟩ = some (.int .i64 0) := (World.cell?_of_block kB).trans q0
          have q1' : w5.cell? ⟨w1.heap.size, 1, none⟩ = some (.int .i64 0) := (World.cell?_of_block kB).trans q1
          have q2' : w5.cell? ⟨w1.heap.size, 2, none⟩ = some (.string ⟨#[]⟩) := (World.cell?_of_block kB).trans q2
          have hzr5 := HZR.out.of ((hb5.block w.heap.size (by omega)).trans (ho4'.block w.heap.size (by omega) (.inr (by omega))))
          have hc5 := hc4.belowB hb5 (by omega)
          have ho5 := (HOR.out.trans ho4').thenBelow (hb5.mono (by omega))
          have hi5 : Dat.IsL 52 (ds' ++ [.mk k4 n4 s4 ds4]) (ms' ++ [.ag [.c (.int .i64 k4), .c (.int .i64 n4), .c (.string s4), .sl a4 cap4 4 52 ms4]]) := HI'.out.snoc ⟨_, _, _, rfl, hi4⟩
          have hlen5 : (ms' ++ [M.ag [.c (.int .i64 k4), .c (.int .i64 n4), .c (.string s4), .sl a4 cap4 4 52 ms4]]).length = ms'.length + 1 := by simp
          have hct5 : Dat.countL (ds' ++ [.mk k4 n4 s4 ds4]) ≤ (ms'.length + 1) * nB d := by
            have := HCT'.out
            rw [Dat.countL_append, Nat.succ_mul]; simp only [Dat.countL, Dat.count]; omega
          have hwl5 : Dat.wf1L (ds' ++ [.mk k4 n4 s4 ds4]) := wf1L_snoc HWL'.out hw4
          have HM5 := Lib.hid hm5; clear hm5; have HI5 := Lib.hid hi5; clear hi5; have HCT5 := Lib.hid hct5; clear hct5; have HWL5 := Lib.hid hwl5; clear hwl5; have HZR5 := Lib.hid hzr5; clear hzr5; have HC5 := Lib.hid hc5; clear hc5; have HO5 := Lib.hid ho5; clear ho5; have HI4 := Lib.hid hi4; clear hi4; have HM4 := Lib.hid hm4; clear hm4; have HW4 := Lib.hid hw4; clear hw4; have HCT4 := Lib.hid hct4; clear hct4; have HC4 := Lib.hid hc4; clear hc4; have HO4 := Lib.hid ho4; clear ho4; have HO4' := Lib.hid ho4'; clear ho4'; have HFR5 := Lib.hid hfr5; clear hfr5
          go_wp2_with fail
          go_roundw
          case rel =>
            refine ⟨n, a5, cap5, ms' ++ [.ag [.c (.int .i64 k4), .c (.int .i64 n4), .c (.string s4), .sl a4 cap4 4 52 ms4]], ds' ++ [.mk k4 n4 s4 ds4], by go_num, by have := HNM.out; simp; omega, HI5.out, ?_, HWL5.out, by rw [hlen5]; exact HCT5.out, ?_, ?_, ?_, ?_, ?_⟩
            · exact M.Mine.keep HM5.out (fun b hb1 hb2 => by simp (disch := (first | omega | (simp; omega))) only [heapSet])
            · simp [go_sem, q0', q1', q2', q3', qf']
            · exact HZR5.out.of (by simp (disch := (first | omega | (simp; omega))) only [heapSet])
            · exact HC5.out.belowB (B := w.heap.size) (by (repeat (first | with_reducible assumption | with_reducible exact Below.refl _ _ | with_reducible refine Below.drew ?_ | with_reducible refine belowDrewN ?_ _ | ((with_reducible refine Below.setCell ?_ ?_ _); rotate_left; focus (first | omega | (simp; done) | (simp; omega))) | ((with_reducible refine Below.alloc ?_ ?_ _); rotate_left; focus (first | omega | (simp; done) | (simp; omega)))))) hpl
            · exact HO5.out.thenBelow (by (repeat (first | with_reducible assumption | with_reducible exact Below.refl _ _ | with_reducible refine Below.drew ?_ | with_reducible refine belowDrewN ?_ _ | ((with_reducible refine Below.setCell ?_ ?_ _); rotate_left; focus (first | omega | (simp; done) | (simp; omega))) | ((with_reducible refine Below.alloc ?_ ?_ _); rotate_left; focus (first | omega | (simp; done) | (simp; omega))))))
            · simp; omega
          case measure => first | (simp [intOf]; done) | (simp [intOf]; omega)
theorem l1Draw_calls : ∀ d, d ≤ 100 → DrD d
  | 0, _ => l1Draw_leaf 0 (by decide)
  | 1, _ => l1Draw_leaf 1 (by decide)
  | d + 2, h => l1Draw_deep (d + 1) (by omega) (by omega) (l1Draw_calls (d + 1) (by omega))
end Go.Proofs.Ytghbnehocggnnaa

/-
  Walks: data drawn, not valid sometimes. No condition.
-/
set_option linter.unusedVariables false
set_option linter.unusedSimpArgs false
set_option maxRecDepth 100000
namespace Go.Proofs.Ytghbnehocggnnaa
open Go.RowKit

theorem countL_snocD (ds : List Dat) (d : Dat) : Dat.countL (ds ++ [d]) = Dat.countL ds + d.count := by
  induction ds with
  | nil => simp [Dat.countL]
  | cons e r ih => simp only [List.cons_append, Dat.countL, ih]; omega
theorem DBox.set0 {b : Nat} {k n : Int} {s : ByteArray} {v : Value} {w : World} (h : DBox b k n s v w) (u : Int) : DBox b u n s v (w.setCell ⟨b, 0, none⟩ (.int .i64 u)) :=
  ⟨by rw [cell?_setCell_eq, h.c0]; rfl, (cellSet_ne _ (by decide)).trans h.c1, (cellSet_ne _ (by decide)).trans h.c2, (cellSet_ne _ (by decide)).trans h.c3,
   (frozenSet _).trans h.f0, (frozenSet _).trans h.f1, (frozenSet _).trans h.f2, (frozenSet _).trans h.f3⟩
theorem DBox.set1 {b : Nat} {k n : Int} {s : ByteArray} {v : Value} {w : World} (h : DBox b k n s v w) (u : Int) : DBox b k u s v (w.setCell ⟨b, 1, none⟩ (.int .i64 u)) :=
  ⟨(cellSet_ne _ (by decide)).trans h.c0, by rw [cell?_setCell_eq, h.c1]; rfl, (cellSet_ne _ (by decide)).trans h.c2, (cellSet_ne _ (by decide)).trans h.c3,
   (frozenSet _).trans h.f0, (frozenSet _).trans h.f1, (frozenSet _).trans h.f2, (frozenSet _).trans h.f3⟩
theorem MineL_one {lo : Nat} {w : World} {a : Option Addr} {cap : Nat} {e : TypeId} {ms : List M} (h : (M.sl a cap 4 e ms).Mine w lo) (k n : Int) (s : ByteArray) : M.MineL w lo [.ag [.c (.int .i64 k), .c (.int .i64 n), .c (.string s), .sl a cap 4 e ms]] :=
  ⟨⟨⟨rfl, rfl, rfl, h.own, trivial⟩, trivial⟩, by simpa [M.blocks, M.blocksL] using h.dup⟩
set_option maxHeartbeats 1000000 in
theorem l1Any_calls (pb : Nat) (a : Option Addr) (cap : Nat) (l : List Int) (w : World) (hc : Cur pb a cap l w) :
    Calls Try.prog 63 #[.pointer (some ⟨pb, 0, none⟩)] w (DrawnD 400 pb a cap l w) := by
  have hpl := hc.lt
  have HC := Lib.hid hc; clear hc
  go_enter Try.func63, Try.ntmps63
  go_wp2_with fail
  refine (l1Draw_calls 4 (by decide) pb a cap l _ (HC.out.below (by (repeat (first | with_reducible assumption | with_reducible exact Below.refl _ _ | with_reducible refine Below.drew ?_ | with_reducible refine belowDrewN ?_ _ | ((with_reducible refine Below.setCell ?_ ?_ _); rotate_left; focus (first | omega | (simp; done) | (simp; omega))) | ((with_reducible refine Below.alloc ?_ ?_ _); rotate_left; focus (first | omega | (simp; done) | (simp; omega)))))))).mono ?_
  rintro e w1 ⟨k1, n1, s1, ds1, a1, cap1, ms1, rfl, hi1, hm1, hw1, hct1, hc1, ho1⟩
  have hz1 := ho1.size
  simp only [World.size_alloc] at hz1
  have hzz := (Zero.new w).only ho1 (.inr (by omega))
  have hoo : OnlyIn pb (pb + 1) w w1 := ((OnlyIn.refl _ _ _).new _).trans ho1
  have HC1 := Lib.hid hc1; clear hc1; have HO1 := Lib.hid ho1; clear ho1; have HOO := Lib.hid hoo; clear hoo; have HI1 := Lib.hid hi1; clear hi1; have HM1 := Lib.hid hm1; clear hm1; have HW1 := Lib.hid hw1; clear hw1; have HCT1 := Lib.hid hct1; clear hct1; have HZZ := Lib.hid hzz; clear hzz
  go_wp2_with fail
  refine (l01Below_calls 12 pb a cap l _ (HC1.out.below (by (repeat (first | with_reducible assumption | with_reducible exact Below.refl _ _ | with_reducible refine Below.drew ?_ | with_reducible refine belowDrewN ?_ _ | ((with_reducible refine Below.setCell ?_ ?_ _); rotate_left; focus (first | omega | (simp; done) | (simp; omega))) | ((with_reducible refine Below.alloc ?_ ?_ _); rotate_left; focus (first | omega | (simp; done) | (simp; omega))))))) (by decide) (by decide)).mono ?_
  rintro e w2 ⟨x, rfl, hx0, hx1, hc2, ho2⟩
  have hz2 := ho2.size
  simp only [World.size_alloc] at hz2
  have hbx : DBox w1.heap.size k1 n1 s1 (.slice a1 ms1.length cap1) w2 := (DBox.new _ _ _ _ w1).only ho2 (.inr (by omega))
  have ho12 : OnlyIn pb (pb + 1) w1 w2 := ((OnlyIn.refl _ _ _).new _).trans ho2
  have hz0 : Zero w.heap.size w2 := HZZ.out.only ho12 (.inr (by omega))
  have hm2 : (M.sl a1 cap1 4 52 ms1).Mine w2 (w.heap.size + 1) := (HM1.out.mono (by simp)).keep (fun b h1 h2 => ho12.block b h2 (.inr (by omega)))
  have ho02 := HOO.out.trans ho12
  have hlt := HM1.out.lt_size
  have HC2 := Lib.hid hc2; clear hc2; have HO2 := Lib.hid ho2; clear ho2; have HO12 := Lib.hid ho12; clear ho12; have HM2 := Lib.hid hm2; clear hm2; have HO02 := Lib.hid ho02; clear ho02; have HBX := Lib.hid hbx; clear hbx; have HZ0 := Lib.hid hz0; clear hz0; have HLT := Lib.hid hlt; clear hlt
  have hct : 1 + Dat.countL ds1 ≤ 341 := by have := HCT1.out; simpa [nB] using this
  by_cases h5 : 5 ≤ x
  · have y0 : (x == 0) = false := by simp; omega
    have y1 : (x == 1) = false := by simp; omega
    have y2 : (x == 2) = false := by simp; omega
    have y3 : (x == 3) = false := by simp; omega
    have y4 : (x == 4) = false := by simp; omega
    have HCT := Lib.hid hct; clear hct; have HX0 := Lib.hid hx0; clear hx0; have HX1 := Lib.hid hx1; clear hx1; have H5 := Lib.hid h5; clear h5
    obtain ⟨r0, r1, r2, r3, g0, g1, g2, g3⟩ := HZ0.out
    obtain ⟨q0, q1, q2, q3, f0, f1, f2, f3⟩ := HBX.out
    go_wp2_with fail
    refine bodyPost_ret (v := .agg #[.int .i64 k1, .int .i64 n1, .string s1, .slice a1 ms1.length cap1]) (by simp [results, Try.results63, go_sem, r0, r1, r2, r3]) rfl ?_
    refine ⟨k1, n1, s1, ds1, a1, cap1, ms1, rfl, HI1.out, ?_, HW1.out, by have := HCT.out; omega, ?_, ?_⟩
    · (exact M.Mine.mono (M.Mine.keep HM2.out (fun b hb1 hb2 => by (try simp at hb1); simp (disch := (first | omega | (simp; omega))) only [heapSet, heapNew, heapDrew, heapDrewN])) (by first | omega | (simp; done) | (simp; omega)))
    · exact HC2.out.belowB (B := w.heap.size) (by (repeat (first | with_reducible assumption | with_reducible exact Below.refl _ _ | with_reducible refine Below.drew ?_ | with_reducible refine belowDrewN ?_ _ | ((with_reducible refine Below.setCell ?_ ?_ _); rotate_left; focus (first | omega | (simp; done) | (simp; omega))) | ((with_reducible refine Below.alloc ?_ ?_ _); rotate_left; focus (first | omega | (simp; done) | (simp; omega)))))) hpl
    · exact HO02.out.thenBelow (by (repeat (first | with_reducible assumption | with_reducible exact Below.refl _ _ | with_reducible refine Below.drew ?_ | with_reducible refine belowDrewN ?_ _ | ((with_reducible refine Below.setCell ?_ ?_ _); rotate_left; focus (first | omega | (simp; done) | (simp; omega))) | ((with_reducible refine Below.alloc ?_ ?_ _); rotate_left; focus (first | omega | (simp; done) | (simp; omega))))))
  · have hx : x = 0 ∨ x = 1 ∨ x = 2 ∨ x = 3 ∨ x = 4 := by omega
    clear hx0 hx1 h5
    rcases hx with rfl | rfl | rfl | rfl | rfl
    · have HCT := Lib.hid hct; clear hct
      go_wp2_with fail
      refine (l01Int_lit _ _ pb a cap l _ HC2.out ?size (by decide) (by decide) ?nums).mono ?_
      case size => rfl
      case nums => exact Nums.of (by rfl)
      rintro e w3 ⟨y, rfl, hy, hc3, ho3⟩
      have hz3 := ho3.size
      obtain ⟨r0, r1, r2, r3, g0, g1, g2, g3⟩ := HZ0.out.only ho3 (.inr (by omega))
      obtain ⟨q0, q1, q2, q3, f0, f1, f2, f3⟩ := HBX.out.only ho3 (.inr (by omega))
      have hm3 := HM2.out.keep (w' := w3) (fun b h1 h2 => ho3.block b h2 (.inr (by omega)))
      have ho03 := HO02.out.trans ho3
      have hw3 : (Dat.mk k1 y s1 ds1).wf1 := ⟨HW1.out.1, hy, HW1.out.2.2⟩
      have HY := Lib.hid hy; clear hy
      have HC3 := Lib.hid hc3; clear hc3; have HO3 := Lib.hid ho3; clear ho3; have HM3 := Lib.hid hm3; clear hm3; have HO03 := Lib.hid ho03; clear ho03; have HW3 := Lib.hid hw3; clear hw3
      go_wp2_with fail
      refine bodyPost_ret (v := .agg #[.int .i64 k1, .int .i64 y, .string s1, .slice a1 ms1.length cap1]) (by simp [results, Try.results63, go_sem, r0, r1, r2, r3]) rfl ?_
      refine ⟨k1, y, s1, ds1, a1, cap1, ms1, rfl, HI1.out, ?_, HW3.out, by have := HCT.out; omega, ?_, ?_⟩
      · exact M.Mine.mono ⟨M.Own.frame _ HM3.out.own fun b hb => by have h1_ := HLT.out b hb; have h2_ := HM3.out.lt b hb; simp (disch := (first | omega | (simp; omega))) only [heapSet], HM3.out.dup⟩ (by omega)
      · exact HC3.out.belowB (B := w.heap.size) (by (repeat (first | with_reducible assumption | with_reducible exact Below.refl _ _ | with_reducible refine Below.drew ?_ | with_reducible refine belowDrewN ?_ _ | ((with_reducible refine Below.setCell ?_ ?_ _); rotate_left; focus (first | omega | (simp; done) | (simp; omega))) | ((with_reducible refine Below.alloc ?_ ?_ _); rotate_left; focus (first | omega | (simp; done) | (simp; omega)))))) hpl
      · exact HO03.out.thenBelow (by (repeat (first | with_reducible assumption | with_reducible exact Below.refl _ _ | with_reducible refine Below.drew ?_ | with_reducible refine belowDrewN ?_ _ | ((with_reducible refine Below.setCell ?_ ?_ _); rotate_left; focus (first | omega | (simp; done) | (simp; omega))) | ((with_reducible refine Below.alloc ?_ ?_ _); rotate_left; focus (first | omega | (simp; done) | (simp; omega))))))
    · have HCT := Lib.hid hct; clear hct
      go_wp2_with fail
      refine (l01Pick_lit _ _ pb a cap l _ HC2.out ?size (by decide) (by decide) ?texts).mono ?_
      case size => rfl
      case texts => exact Texts.of (by rfl)
      rintro e w3 ⟨y, rfl, hy, hc3, ho3⟩
      have hz3 := ho3.size
      obtain ⟨r0, r1, r2, r3, g0, g1, g2, g3⟩ := HZ0.out.only ho3 (.inr (by omega))
      obtain ⟨q0, q1, q2, q3, f0, f1, f2, f3⟩ := HBX.out.only ho3 (.inr (by omega))
      have hm3 := HM2.out.keep (w' := w3) (fun b h1 h2 => ho3.block b h2 (.inr (by omega)))
      have ho03 := HO02.out.trans ho3
      have hw3 : (Dat.mk k1 n1 y ds1).wf1 := ⟨HW1.out.1, HW1.out.2.1, by omega, HW1.out.2.2.2⟩
      have HY := Lib.hid hy; clear hy
      have HC3 := Lib.hid hc3; clear hc3; have HO3 := Lib.hid ho3; clear ho3; have HM3 := Lib.hid hm3; clear hm3; have HO03 := Lib.hid ho03; clear ho03; have HW3 := Lib.hid hw3; clear hw3
      go_wp2_with fail
      refine bodyPost_ret (v := .agg #[.int .i64 k1, .int .i64 n1, .string y, .slice a1 ms1.length cap1]) (by simp [results, Try.results63, go_sem, r0, r1, r2, r3]) rfl ?_
      refine ⟨k1, n1, y, ds1, a1, cap1, ms1, rfl, HI1.out, ?_, HW3.out, by have := HCT.out; omega, ?_, ?_⟩
      · exact M.Mine.mono ⟨M.Own.frame _ HM3.out.own fun b hb => by have h1_ := HLT.out b hb; have h2_ := HM3.out.lt b hb; simp (disch := (first | omega | (simp; omega))) only [heapSet], HM3.out.dup⟩ (by omega)
      · exact HC3.out.belowB (B := w.heap.size) (by (repeat (first | with_reducible assumption | with_reducible exact Below.refl _ _ | with_reducible refine Below.drew ?_ | with_reducible refine belowDrewN ?_ _ | ((with_reducible refine Below.setCell ?_ ?_ _); rotate_left; focus (first | omega | (simp; done) | (simp; omega))) | ((with_reducible refine Below.alloc ?_ ?_ _); rotate_left; focus (first | omega | (simp; done) | (simp; omega)))))) hpl
      · exact HO03.out.thenBelow (by (repeat (first | with_reducible assumption | with_reducible exact Below.refl _ _ | with_reducible refine Below.drew ?_ | with_reducible refine belowDrewN ?_ _ | ((with_reducible refine Below.setCell ?_ ?_ _); rotate_left; focus (first | omega | (simp; done) | (simp; omega))) | ((with_reducible refine Below.alloc ?_ ?_ _); rotate_left; focus (first | omega | (simp; done) | (simp; omega))))))
    · have HCT := Lib.hid hct; clear hct
      go_wp2_with fail
      refine (l01Below_calls 7 pb a cap l _ HC2.out (by decide) (by decide)).mono ?_
      rintro e w3 ⟨y, rfl, hy0, hy1, hc3, ho3⟩
      have hwr : wrap64 (y - 1) = y - 1 := by unfold wrap64; omega
      have hz3 := ho3.size
      obtain ⟨r0, r1, r2, r3, g0, g1, g2, g3⟩ := HZ0.out.only ho3 (.inr (by omega))
      obtain ⟨q0, q1, q2, q3, f0, f1, f2, f3⟩ := HBX.out.only ho3 (.inr (by omega))
      have hm3 := HM2.out.keep (w' := w3) (fun b h1 h2 => ho3.block b h2 (.inr (by omega)))
      have ho03 := HO02.out.trans ho3
      have hw3 : (Dat.mk (y - 1) n1 s1 ds1).wf1 := ⟨by unfold I64; omega, HW1.out.2.1, HW1.out.2.2⟩
      have HY0 := Lib.hid hy0; clear hy0; have HY1 := Lib.hid hy1; clear hy1
      have HC3 := Lib.hid hc3; clear hc3; have HO3 := Lib.hid ho3; clear ho3; have HM3 := Lib.hid hm3; clear hm3; have HO03 := Lib.hid ho03; clear ho03; have HW3 := Lib.hid hw3; clear hw3
      go_wp2_with fail
      refine bodyPost_ret (v := .agg #[.int .i64 (y - 1), .int .i64 n1, .string s1, .slice a1 ms1.length cap1]) (by simp [results, Try.results63, go_sem, r0, r1, r2, r3]) rfl ?_
      refine ⟨(y - 1), n1, s1, ds1, a1, cap1, ms1, rfl, HI1.out, ?_, HW3.out, by have := HCT.out; omega, ?_, ?_⟩
      · exact M.Mine.mono ⟨M.Own.frame _ HM3.out.own fun b hb => by have h1_ := HLT.out b hb; have h2_ := HM3.out.lt b hb; simp (disch := (first | omega | (simp; omega))) only [heapSet], HM3.out.dup⟩ (by omega)
      · exact HC3.out.belowB (B := w.heap.size) (by (repeat (first | with_reducible assumption | with_reducible exact Below.refl _ _ | with_reducible refine Below.drew ?_ | with_reducible refine belowDrewN ?_ _ | ((with_reducible refine Below.setCell ?_ ?_ _); rotate_left; focus (first | omega | (simp; done) | (simp; omega))) | ((with_reducible refine Below.alloc ?_ ?_ _); rotate_left; focus (first | omega | (simp; done) | (simp; omega)))))) hpl
      · exact HO03.out.thenBelow (by (repeat (first | with_reducible assumption | with_reducible exact Below.refl _ _ | with_reducible refine Below.drew ?_ | with_reducible refine belowDrewN ?_ _ | ((with_reducible refine Below.setCell ?_ ?_ _); rotate_left; focus (first | omega | (simp; done) | (simp; omega))) | ((with_reducible refine Below.alloc ?_ ?_ _); rotate_left; focus (first | omega | (simp; done) | (simp; omega))))))
    · obtain ⟨q0, q1, q2, q3, f0, f1, f2, f3⟩ := HBX.out
      have hlm : ms1.length ≤ 400 := by have h1 := HI1.out.length; have h2 := Dat.length_le ds1; omega
      have hno : w1.heap.size ∉ addrBlocks a1 := fun hx => by have := HLT.out w1.heap.size (by simp only [M.blocks, List.mem_append]; exact .inl hx); omega
      have HCT := Lib.hid hct; clear hct; have HNO := Lib.hid hno; clear hno
      go_wp2_with (at_builtin; refine wpList_push2 (wr := w2) rfl _ _ 50 rfl 52 _ 4 56 Try.underlying50 infoDat rfl (by decide) (w.heap.size + 1) a1 cap1 ms1 rfl HM2.out (by omega) (by (repeat (first | with_reducible assumption | with_reducible exact Below.refl _ _ | with_reducible refine Below.drew ?_ | with_reducible refine belowDrewN ?_ _ | ((with_reducible refine Below.setCell ?_ ?_ _); rotate_left; focus (first | omega | (simp; done) | (simp; omega))) | ((with_reducible refine Below.alloc ?_ ?_ _); rotate_left; focus (first | omega | (simp; done) | (simp; omega)))))) _ (M.ag [.c (.int .i64 9), .c (.int .i64 0), .c (.string ⟨#[]⟩), .sl none 0 4 52 []]) rfl rfl w2.heap.size ⟨⟨rfl, rfl, rfl, (M.Mine.nil w2 _ 4 52 (by decide)).own, trivial⟩, by simp [M.blocks, M.blocksL, addrBlocks]⟩ (Nat.le_refl _) (by simp [go_sem]) (by unfold maxLen; omega) (by omega) ?_)
      intro a3 cap3 w3 hm3 hb3 hz3 hk3 hl3
      have hp3 : w1.heap.size < w3.heap.size := by omega
      obtain ⟨s0, s1', s2, s3, m0, m1, m2, m3⟩ : DBox w1.heap.size k1 n1 s1 (.slice a1 ms1.length cap1) w3 := HBX.out.of (hk3 _ (by omega) HNO.out)
      obtain ⟨r0, r1, r2, r3, g0, g1, g2, g3⟩ : Zero w.heap.size w3 := HZ0.out.of (hb3.block _ (by omega))
      have hlt3 : ∀ b ∈ (M.sl a3 cap3 4 52 (ms1 ++ [(M.ag [.c (.int .i64 9), .c (.int .i64 0), .c (.string ⟨#[]⟩), .sl none 0 4 52 []])])).blocks, b ≠ w1.heap.size := by
        intro b hb
        simp only [M.blocks, List.mem_append] at hb
        rcases hb with hb | hb
        · rcases hl3 b hb with h | h
          · intro he; subst he; exact HNO.out h
          · omega
        · rw [M.blocksL_append, List.mem_append] at hb
          rcases hb with hb | hb
          · have := HLT.out b (by simp only [M.blocks, List.mem_append]; exact .inr hb); omega
          · simp [M.blocksL, M.blocks, addrBlocks] at hb
      have hi3 : Dat.IsL 52 (ds1 ++ [.mk 9 0 ⟨#[]⟩ []]) (ms1 ++ [(M.ag [.c (.int .i64 9), .c (.int .i64 0), .c (.string ⟨#[]⟩), .sl none 0 4 52 []])]) := HI1.out.snoc ⟨none, 0, [], rfl, rfl⟩
      have hw3 : (Dat.mk k1 n1 s1 (ds1 ++ [.mk 9 0 ⟨#[]⟩ []])).wf1 := ⟨HW1.out.1, HW1.out.2.1, HW1.out.2.2.1, wf1L_snoc HW1.out.2.2.2 ⟨by unfold I64; omega, by unfold I64; omega, by show (0 : Nat) ≤ _; omega, trivial⟩⟩
      have hct3 : 1 + Dat.countL (ds1 ++ [.mk 9 0 ⟨#[]⟩ []]) ≤ 400 := by have := HCT.out; rw [countL_snocD]; simp [Dat.count, Dat.countL]; omega
      have hml3 : (ms1 ++ [(M.ag [.c (.int .i64 9), .c (.int .i64 0), .c (.string ⟨#[]⟩), .sl none 0 4 52 []])]).length = ms1.length + 1 := by simp
      have hb23 : Below w.heap.size w2 w3 := hb3.mono (by omega)
      clear q0 q1 q2 q3 f0 f1 f2 f3 hk3 hl3
      have HM3 := Lib.hid hm3; clear hm3; have HLT3 := Lib.hid hlt3; clear hlt3; have HI3 := Lib.hid hi3; clear hi3; have HW3 := Lib.hid hw3; clear hw3; have HCT3 := Lib.hid hct3; clear hct3; have HML3 := Lib.hid hml3; clear hml3
      go_wp2_with fail
      refine bodyPost_ret (v := .agg #[.int .i64 k1, .int .i64 n1, .string s1, .slice a3 (ms1.length + 1) cap3]) (by simp [results, Try.results63, go_sem, r0, r1, r2, r3]) rfl ?_
      refine ⟨k1, n1, s1, _, a3, cap3, _, by rw [HML3.out], HI3.out, ?_, HW3.out, HCT3.out, ?_, ?_⟩
      · exact M.Mine.mono ⟨M.Own.frame _ HM3.out.own fun b hb => by have h1_ := HLT3.out b hb; have h2_ := HM3.out.lt b hb; simp (disch := (first | omega | (simp; omega))) only [heapSet], HM3.out.dup⟩ (by omega)
      · exact HC2.out.belowB (B := w.heap.size) (by (repeat (first | with_reducible assumption | with_reducible exact Below.refl _ _ | with_reducible refine Below.drew ?_ | with_reducible refine belowDrewN ?_ _ | ((with_reducible refine Below.setCell ?_ ?_ _); rotate_left; focus (first | omega | (simp; done) | (simp; omega))) | ((with_reducible refine Below.alloc ?_ ?_ _); rotate_left; focus (first | omega | (simp; done) | (simp; omega))) | ((with_reducible refine Below.trans ?_ (Below.mono hb23 ?_)); rotate_left; focus (first | omega | (simp; done) | (simp; omega)))))) hpl
      · exact HO02.out.thenBelow (by (repeat (first | with_reducible assumption | with_reducible exact Below.refl _ _ | with_reducible refine Below.drew ?_ | with_reducible refine belowDrewN ?_ _ | ((with_reducible refine Below.setCell ?_ ?_ _); rotate_left; focus (first | omega | (simp; done) | (simp; omega))) | ((with_reducible refine Below.alloc ?_ ?_ _); rotate_left; focus (first | omega | (simp; done) | (simp; omega))) | ((with_reducible refine Below.trans ?_ (Below.mono hb23 ?_)); rotate_left; focus (first | omega | (simp; done) | (simp; omega))))))
    · have HCT := Lib.hid hct; clear hct
      go_wp2_with fail
      go_loopw [4] (fun i wr => ∃ (j : Nat) (k n : Int) (s : ByteArray) (ds : List Dat) (a' : Option Addr) (cap' : Nat) (ms' : List M), j ≤ 21 ∧ i = .int .i64 j ∧ DBox w1.heap.size k n s (.slice a' ms'.length cap') wr ∧ Zero w.heap.size wr ∧ Dat.IsL 52 ds ms' ∧ (M.sl a' cap' 4 52 ms').Mine wr (w.heap.size + 1) ∧ (∀ b ∈ (M.sl a' cap' 4 52 ms').blocks, b ≠ w1.heap.size) ∧ (Dat.mk k n s ds).wf1 ∧ 1 + Dat.countL ds ≤ 341 + j ∧ Below w.heap.size w2 wr) (fun i _ => 21 - (intOf i).toNat)
      case atStart => exact ⟨0, k1, n1, s1, ds1, a1, cap1, ms1, by omega, rfl, HBX.out, HZ0.out, HI1.out, HM2.out, fun b hb => by have := HLT.out b hb; omega, HW1.out, by have := HCT.out; omega, Below.refl _ _⟩
      case round =>
        obtain ⟨j, k, n, s, ds, a', cap', ms', hj, rfl, hbx, hz, hi, hm, hnb, hwf, hct', hb⟩ := hrel
        have hzr := hb.size
        have p3 := hbx.lt
        have hbx0 := hbx
        have hz0 := hz
        have hcapm := hm.in_.len
        obtain ⟨q0, q1, q2, q3, f0, f1, f2, f3⟩ := hbx
        obtain ⟨r0, r1, r2, r3, g0, g1, g2, g3⟩ := hz
        by_cases hlt21 : j < 21
        · have HI := Lib.hid hi; clear hi; have HM := Lib.hid hm; clear hm; have HNB := Lib.hid hnb; clear hnb; have HWF := Lib.hid hwf; clear hwf; have HCT' := Lib.hid hct'; clear hct'; have HBX0 := Lib.hid hbx0; clear hbx0; have HZ0 := Lib.hid hz0; clear hz0
          go_wp2_with fail
          go_roundw
          case rel =>
            refine ⟨j + 1, 0, 0, ⟨#[]⟩, [.mk k n s ds], some ⟨wr.heap.size, 0, none⟩, 1, [.ag [.c (.int .i64 k), .c (.int .i64 n), .c (.string s), .sl a' cap' 4 52 ms']], by omega, by go_num, ?_, ?_, ⟨_, [], rfl, ⟨a', cap', ms', rfl, HI.out⟩, rfl⟩, ?_, ?_, ?_, ?_, ?_⟩
            · refine DBox.of (w := (((wr.setCell ⟨w1.heap.size, 0, none⟩ (.int .i64 0)).setCell ⟨w1.heap.size, 1, none⟩ (.int .i64 0)).setCell ⟨w1.heap.size, 2, none⟩ (.string ⟨#[]⟩)).setCell ⟨w1.heap.size, 3, none⟩ (.slice (some ⟨wr.heap.size, 0, none⟩) 1 1)) ((((HBX0.out.set0 0).set1 0).set2 ⟨#[]⟩).set3 _) ?_
              simp (disch := (first | omega | (simp; done) | (simp; omega))) only [heapNew]
            · refine HZ0.out.of ?_
              have := HZ0.out.lt
              simp (disch := (first | omega | (simp; done) | (simp; omega))) only [heapSet, heapNew]
            · have hmw : (M.sl a' cap' 4 52 ms').Mine ((((wr.setCell ⟨w1.heap.size, 0, none⟩ (.int .i64 0)).setCell ⟨w1.heap.size, 1, none⟩ (.int .i64 0)).setCell ⟨w1.heap.size, 2, none⟩ (.string ⟨#[]⟩)).setCell ⟨w1.heap.size, 3, none⟩ (.slice (some ⟨wr.heap.size, 0, none⟩) 1 1)) (w.heap.size + 1) :=
                ⟨M.Own.frame _ HM.out.own fun b hb' => by have h1_ := HNB.out b hb'; simp (disch := (first | omega | (simp; omega))) only [heapSet], HM.out.dup⟩
              have hN := M.Mine.new (w := ((((wr.setCell ⟨w1.heap.size, 0, none⟩ (.int .i64 0)).setCell ⟨w1.heap.size, 1, none⟩ (.int .i64 0)).setCell ⟨w1.heap.size, 2, none⟩ (.string ⟨#[]⟩)).setCell ⟨w1.heap.size, 3, none⟩ (.slice (some ⟨wr.heap.size, 0, none⟩) 1 1))) (lo := w.heap.size + 1) (sz := 4) (n := 1) (e := 52) (cs := #[.int .i64 k, .int .i64 n, .string s, .slice a' ms'.length cap']) (xs := [.ag [.c (.int .i64 k), .c (.int .i64 n), .c (.string s), .sl a' cap' 4 52 ms']]) rfl (by simp; omega) rfl (by decide) (by intro x hx; simp at hx; subst hx; rfl) (by decide) (MineL_one hmw k n s)
              simpa using hN
            · intro b hb'
              simp only [M.blocks, M.blocksL, List.mem_append, List.append_nil, List.nil_append] at hb'
              rcases hb' with hb' | hb'
              · simp [addrBlocks] at hb'; omega
              · exact HNB.out b (by simp only [M.blocks, List.mem_append]; exact hb')
            · exact ⟨by unfold I64; omega, by unfold I64; omega, by show (0 : Nat) ≤ _; omega, HWF.out, trivial⟩
            · have := HCT'.out; simp only [Dat.countL, Dat.count]; omega
            · (repeat (first | with_reducible assumption | with_reducible exact Below.refl _ _ | with_reducible refine Below.drew ?_ | with_reducible refine belowDrewN ?_ _ | ((with_reducible refine Below.setCell ?_ ?_ _); rotate_left; focus (first | omega | (simp; done) | (simp; omega))) | ((with_reducible refine Below.alloc ?_ ?_ _); rotate_left; focus (first | omega | (simp; done) | (simp; omega))) | ((with_reducible refine Below.trans ?_ (Below.mono hb ?_)); rotate_left; focus (first | omega | (simp; done) | (simp; omega)))))
          case measure => simp [intOf]; omega
        · have hj21 : j = 21 := by omega
          subst hj21
          have HI := Lib.hid hi; clear hi; have HM := Lib.hid hm; clear hm; have HNB := Lib.hid hnb; clear hnb; have HWF := Lib.hid hwf; clear hwf; have HCT' := Lib.hid hct'; clear hct'; have HBX0 := Lib.hid hbx0; clear hbx0; have HZ0 := Lib.hid hz0; clear hz0
          go_wp2_with fail
          refine bodyPost_ret (v := .agg #[.int .i64 k, .int .i64 n, .string s, .slice a' ms'.length cap']) (by simp [results, Try.results63, go_sem, r0, r1, r2, r3]) rfl ?_
          refine ⟨k, n, s, ds, a', cap', ms', rfl, HI.out, ?_, HWF.out, by have := HCT'.out; omega, ?_, ?_⟩
          · exact M.Mine.mono ⟨M.Own.frame _ HM.out.own fun b hb' => by have h1_ := HNB.out b hb'; have h2_ := HM.out.lt b hb'; simp (disch := (first | omega | (simp; omega))) only [heapSet], HM.out.dup⟩ (by omega)
          · exact HC2.out.belowB (B := w.heap.size) (by (repeat (first | with_reducible assumption | with_reducible exact Below.refl _ _ | with_reducible refine Below.drew ?_ | with_reducible refine belowDrewN ?_ _ | ((with_reducible refine Below.setCell ?_ ?_ _); rotate_left; focus (first | omega | (simp; done) | (simp; omega))) | ((with_reducible refine Below.alloc ?_ ?_ _); rotate_left; focus (first | omega | (simp; done) | (simp; omega))) | ((with_reducible refine Below.trans ?_ (Below.mono hb ?_)); rotate_left; focus (first | omega | (simp; done) | (simp; omega)))))) hpl
          · exact HO02.out.thenBelow (by (repeat (first | with_reducible assumption | with_reducible exact Below.refl _ _ | with_reducible refine Below.drew ?_ | with_reducible refine belowDrewN ?_ _ | ((with_reducible refine Below.setCell ?_ ?_ _); rotate_left; focus (first | omega | (simp; done) | (simp; omega))) | ((with_reducible refine Below.alloc ?_ ?_ _); rotate_left; focus (first | omega | (simp; done) | (simp; omega))) | ((with_reducible refine Below.trans ?_ (Below.mono hb ?_)); rotate_left; focus (first | omega | (simp; done) | (simp; omega))))))
end Go.Proofs.Ytghbnehocggnnaa

/-
  Walks: a piece of syntax drawn. No condition.
-/
set_option linter.unusedVariables false
set_option linter.unusedSimpArgs false
set_option maxRecDepth 100000
namespace Go.Proofs.Ytghbnehocggnnaa
open Go.RowKit

mutual
/-- numbers of the machine, texts of at most 100 bytes, at most 8 scopes -/
def Syn.wf1 : Syn → Prop
  | .mk k n s x ds => I64 k ∧ I64 n ∧ s.size ≤ 100 ∧ x.length ≤ 8 ∧ Small x ∧ Syn.wf1L ds
def Syn.wf1L : List Syn → Prop
  | [] => True
  | d :: ds => d.wf1 ∧ Syn.wf1L ds
end
theorem Small.I64 {x : List Int} (h : Small x) : ∀ z ∈ x, I64 z := fun z hz => by have := h z hz; unfold Go.Proofs.Ytghbnehocggnnaa.I64; omega
mutual
theorem Syn.wf1.wf : ∀ {d : Syn}, d.wf1 → d.wf
  | .mk _ _ _ _ _, h => ⟨h.1, h.2.1, Nat.le_trans h.2.2.1 (by decide), h.2.2.2.2.1.I64, Syn.wf1L.wfL h.2.2.2.2.2⟩
theorem Syn.wf1L.wfL : ∀ {ds : List Syn}, Syn.wf1L ds → Syn.wfL ds
  | [], _ => trivial
  | _ :: _, h => ⟨Syn.wf1.wf h.1, Syn.wf1L.wfL h.2⟩
end
theorem Syn.wf1L_wt : ∀ ds : List Syn, Syn.wf1L ds → ds.length + Syn.wtX ds ≤ 109 * Syn.countL ds := by
  refine Syn.inductL fun ds ih hw => ?_
  induction ds with
  | nil => simp [Syn.wtX]
  | cons d r ihr =>
    obtain ⟨k, n, s, x, es⟩ := d
    obtain ⟨⟨_, _, hs, hx, _, he⟩, hr⟩ := hw
    have h1 := ih k n s x es (List.mem_cons_self ..) he
    have h2 := ihr (fun k n s x es hm => ih k n s x es (List.mem_cons_of_mem _ hm)) hr
    simp only [List.length_cons, Syn.wtX, Syn.wt, Syn.countL, Syn.count]
    omega
theorem Syn.wf1.wt_le {k n : Int} {s : ByteArray} {x : List Int} {ds : List Syn} (h : (Syn.mk k n s x ds).wf1) (hc : 1 + Syn.countL ds ≤ 400) : s.size + (x.length + (ds.length + Syn.wtX ds)) ≤ 50000 := by
  obtain ⟨_, _, hs, hx, _, he⟩ := h
  have := Syn.wf1L_wt ds he
  omega
mutual
theorem synOf_wf1 : ∀ {d : Dat}, d.wf1 → (synOf d).wf1
  | .mk _ _ _ _, h => by
    simp only [synOf]
    exact ⟨h.1, h.2.1, h.2.2.1, by simp, fun z hz => by simp at hz, synOfL_wf1 h.2.2.2⟩
theorem synOfL_wf1 : ∀ {ds : List Dat}, Dat.wf1L ds → Syn.wf1L (synOfL ds)
  | [], _ => trivial
  | _ :: _, h => by simp only [synOfL]; exact ⟨synOf_wf1 h.1, synOfL_wf1 h.2⟩
end
mutual
theorem synOf_count : ∀ d : Dat, (synOf d).count = d.count
  | .mk _ _ _ ds => by simp only [synOf, Syn.count, Dat.count]; rw [synOfL_count ds]
theorem synOfL_count : ∀ ds : List Dat, Syn.countL (synOfL ds) = Dat.countL ds
  | [] => rfl
  | d :: r => by simp only [synOfL, Syn.countL, Dat.countL]; rw [synOf_count d, synOfL_count r]
end
mutual
theorem Mix.keeps : ∀ {d d' : Syn}, Mix d d' → d.wf1 → d'.wf1 ∧ d'.count = d.count
  | .mk k n s x ds, .mk k' n' s' x' ds', h, hw => by
    obtain ⟨rfl, rfl, rfl, hx, hl⟩ := h
    obtain ⟨h1, h2, h3, h4, h5, h6⟩ := hw
    obtain ⟨g1, g2⟩ := MixL.keeps hl h6
    have hxx : x'.length ≤ 8 ∧ Small x' := by
      rcases hx with rfl | ⟨ha, hb⟩
      · exact ⟨h4, h5⟩
      · exact ⟨by omega, hb⟩
    exact ⟨⟨h1, h2, h3, hxx.1, hxx.2, g1⟩, by simp only [Syn.count]; rw [g2]⟩
theorem MixL.keeps : ∀ {ds ds' : List Syn}, MixL ds ds' → Syn.wf1L ds → Syn.wf1L ds' ∧ Syn.countL ds' = Syn.countL ds
  | [], ds', h, _ => by simp only [MixL] at h; subst h; exact ⟨trivial, rfl⟩
  | d :: r, ds', h, hw => by
    obtain ⟨d', r', rfl, h1, h2⟩ := h
    obtain ⟨g1, g2⟩ := Mix.keeps h1 hw.1
    obtain ⟨g3, g4⟩ := MixL.keeps h2 hw.2
    exact ⟨⟨g1, g3⟩, by simp only [Syn.countL]; rw [g2, g4]⟩
end
theorem OnlyIn.thenOnly {lo hi : Nat} {bs : List Nat} {a b c : World} (h : OnlyIn lo hi a b) (k : Only bs b c) (hs : ∀ x ∈ bs, (lo ≤ x ∧ x < hi) ∨ a.heap.size ≤ x) : OnlyIn lo hi a c :=
  ⟨k.os.trans h.os, k.tape.trans h.tape, k.output.trans h.output, Nat.le_trans h.size k.size, fun i hi2 hn => (k.block i (Nat.lt_of_lt_of_le hi2 h.size) fun hc => by
    rcases hs i hc with h1 | h1
    · omega
    · omega).trans (h.block i hi2 hn)⟩
/-- a piece of syntax drawn -/
def DrawnS (pb : Nat) (a : Option Addr) (cap : Nat) (l : List Int) (w : World) (e : Ending) (w' : World) : Prop :=
  ∃ (k n : Int) (s : ByteArray) (x : List Int) (ds : List Syn) (xa : Option Addr) (xc : Nat) (a' : Option Addr) (cap' : Nat) (ms : List M), e = .returned (.agg #[.int .i64 k, .int .i64 n, .string s, .slice xa x.length xc, .slice a' ms.length cap']) ∧
    Syn.IsL 27 ds ms ∧ (SynOwn 27 xa xc x a' cap' ms).Mine w' w.heap.size ∧ (Syn.mk k n s x ds).wf1 ∧ 1 + Syn.countL ds ≤ 400 ∧ Cur pb a cap l w' ∧ OnlyIn pb (pb + 1) w w'
/-- handed back out of the box of the result -/
theorem DrawnS.boxed {pb : Nat} {a : Option Addr} {cap : Nat} {l : List Int} {w W : World} {k n : Int} {s : ByteArray} {x : List Int} {ds : List Syn} {xa : Option Addr} {xc : Nat} {a' : Option Addr} {cap' : Nat} {ms : List M} {c : Nat}
    (hi : Syn.IsL 27 ds ms) (hm : (SynOwn 27 xa xc x a' cap' ms).Mine W c) (hc : w.heap.size < c) (hw : (Syn.mk k n s x ds).wf1) (hct : 1 + Syn.countL ds ≤ 400) (hcur : Cur pb a cap l W) (ho : OnlyIn pb (pb + 1) w W) (hp : pb < w.heap.size) (hsz : w.heap.size < W.heap.size) :
    DrawnS pb a cap l w (.returned (.agg #[.int .i64 k, .int .i64 n, .string s, .slice xa x.length xc, .slice a' ms.length cap'])) (setCells W w.heap.size 0 [.int .i64 k, .int .i64 n, .string s, .slice xa x.length xc, .slice a' ms.length cap']) := by
  have ho2 := setCells_Only w.heap.size (bs := [w.heap.size]) (by simp) [.int .i64 k, .int .i64 n, .string s, .slice xa x.length xc, .slice a' ms.length cap'] W 0 (Only.refl _ W)
  refine ⟨k, n, s, x, ds, xa, xc, a', cap', ms, rfl, hi, ?_, hw, hct, ?_, ?_⟩
  · exact M.Mine.mono (hm.only ho2 fun b hb hn => by have := (hm.lt b hb).1; simp at hn; omega) (by omega)
  · exact hcur.belowB (B := w.heap.size) (ho2.below (by omega) (by simp)) hp
  · exact ho.thenOnly ho2 (fun y hy => by simp at hy; omega)
set_option maxHeartbeats 2000000 in
theorem l2Draw_calls (pb : Nat) (a : Option Addr) (cap : Nat) (l : List Int) (w : World) (hc : Cur pb a cap l w) :
    Calls Try.prog 93 #[.pointer (some ⟨pb, 0, none⟩)] w (DrawnS pb a cap l w) := by
  have hpl := hc.lt
  have HC := Lib.hid hc; clear hc
  go_enter Try.func93, Try.ntmps93
  go_wp2_with fail
  refine (l1Draw_calls 4 (by decide) pb a cap l _ (HC.out.below (by (repeat (first | with_reducible assumption | with_reducible exact Below.refl _ _ | with_reducible refine Below.drew ?_ | with_reducible refine belowDrewN ?_ _ | ((with_reducible refine Below.setCell ?_ ?_ _); rotate_left; focus (first | omega | (simp; done) | (simp; omega))) | ((with_reducible refine Below.alloc ?_ ?_ _); rotate_left; focus (first | omega | (simp; done) | (simp; omega)))))))).mono ?_
  rintro e w1 ⟨k1, n1, s1, ds1, a1, cap1, ms1, rfl, hi1, hm1, hw1, hct1, hc1, ho1⟩
  have hz1 := ho1.size
  simp only [World.size_alloc] at hz1
  have hr1 : SBox w.heap.size 0 0 ⟨#[]⟩ (.slice none 0 0) (.slice none 0 0) w1 := (SBox.new 0 0 ⟨#[]⟩ (.slice none 0 0) (.slice none 0 0) w).only ho1 (.inr (by omega))
  have hoo : OnlyIn pb (pb + 1) w w1 := ((OnlyIn.refl _ _ _).new _).trans ho1
  have hct : 1 + Dat.countL ds1 ≤ 341 := by simpa [nB] using hct1
  clear ho1 hct1
  have HI1 := Lib.hid hi1; clear hi1; have HM1 := Lib.hid hm1; clear hm1; have HW1 := Lib.hid hw1; clear hw1; have HC1 := Lib.hid hc1; clear hc1; have HOO := Lib.hid hoo; clear hoo; have HR1 := Lib.hid hr1; clear hr1; have HCT := Lib.hid hct; clear hct
  go_wp2_with fail
  refine (l2Of_calls ds1 k1 n1 s1 a1 cap1 ms1 _ (by have := HCT.out; omega) HI1.out HM1.out.in_).mono ?_
  rintro e w2 ⟨xa2, xc2, a2, cap2, ms2, rfl, hi2, hm2, hb2⟩
  simp only [Syn.k_mk, Syn.n_mk, Syn.s_mk, Syn.x_mk, Syn.ds_mk] at hi2 hm2 ⊢
  have hz2 := hb2.size
  have hc2 := HC1.out.below hb2
  have hoo2 := HOO.out.thenBelow (hb2.mono (by omega))
  have hmc := l2Mixed_calls (synOfL ds1) k1 n1 s1 [] xa2 xc2 a2 cap2 ms2 pb a cap l w1.heap.size w2 hi2 hm2 hc2 (by omega) (by omega)
  have hlt2 := (SynOwn_ms hm2).lt
  have hr2 := HR1.out.below hb2 (by omega)
  have HMC := Lib.hid hmc; clear hmc; have HOO2 := Lib.hid hoo2; clear hoo2; have HLT2 := Lib.hid hlt2; clear hlt2; have HR2 := Lib.hid hr2; clear hr2
  clear hi2 hm2 hc2
  go_wp2_with fail
  refine HMC.out.mono ?_
  rintro e w3 ⟨x3, xa3, xc3, ds3, ms3, rfl, hl3, hx3, hmx3, hi3, hm3, hc3, ho3, hbl3, hxb3⟩
  have hz3 := ho3.size
  obtain ⟨r0, r1, r2, r3, r4, g0, g1, g2, g3, g4⟩ : SBox w.heap.size 0 0 ⟨#[]⟩ (.slice none 0 0) (.slice none 0 0) w3 := HR2.out.of (ho3.block _ (by omega) (fun hn => by
    rcases List.mem_cons.1 hn with h1 | h1
    · omega
    · have := (HLT2.out _ h1).1; omega))
  have hoo3 := HOO2.out.thenOnly ho3 (fun y hy => by
    rcases List.mem_cons.1 hy with h1 | h1
    · omega
    · have := (HLT2.out _ h1).1; omega)
  obtain ⟨hwf3, hcn3⟩ := Mix.keeps (d := .mk k1 n1 s1 [] (synOfL ds1)) (d' := .mk k1 n1 s1 x3 ds3) ⟨rfl, rfl, rfl, hx3, hmx3⟩ (by simpa only [synOf] using synOf_wf1 HW1.out)
  have hct3 : 1 + Syn.countL ds3 ≤ 400 := by
    simp only [Syn.count] at hcn3
    rw [synOfL_count] at hcn3
    have := HCT.out
    omega
  have hret := DrawnS.boxed (w := w) (k := k1) (n := n1) (s := s1) hi3 hm3 (by omega) hwf3 hct3 hc3 hoo3 hpl (by omega)
  simp only [setCells, Nat.zero_add, Nat.reduceAdd] at hret
  clear hl3 hx3 hmx3 hi3 hm3 hc3 ho3 hbl3 hxb3 hoo3 hwf3 hcn3 hct3
  have HRET := Lib.hid hret; clear hret
  go_wp2_with fail
  refine bodyPost_ret (v := .agg #[.int .i64 k1, .int .i64 n1, .string s1, .slice xa3 x3.length xc3, .slice a2 ms3.length cap2]) (by simp [results, Try.results93, go_sem, r0, r1, r2, r3, r4]) rfl ?_
  exact HRET.out
end Go.Proofs.Ytghbnehocggnnaa

/-
  Walks: a piece of syntax drawn, not valid sometimes; what the laws draw. No condition.
-/
set_option linter.unusedVariables false
set_option linter.unusedSimpArgs false
set_option maxRecDepth 100000
namespace Go.Proofs.Ytghbnehocggnnaa
open Go.RowKit

theorem Syn.wf1.setX {k n : Int} {s : ByteArray} {x L : List Int} {ds : List Syn} (h : (Syn.mk k n s x ds).wf1) (h1 : L.length ≤ 8) (h2 : Small L) : (Syn.mk k n s L ds).wf1 := ⟨h.1, h.2.1, h.2.2.1, h1, h2, h.2.2.2.2.2⟩
set_option maxHeartbeats 4000000 in
theorem l2Any_calls (pb : Nat) (a : Option Addr) (cap : Nat) (l : List Int) (w : World) (hc : Cur pb a cap l w) :
    Calls Try.prog 52 #[.pointer (some ⟨pb, 0, none⟩)] w (DrawnS pb a cap l w) := by
  have hpl := hc.lt
  have HC := Lib.hid hc; clear hc
  go_enter Try.func52, Try.ntmps52
  go_wp2_with fail
  refine (l01Once_calls 6 pb a cap l _ (HC.out.below (by (repeat (first | with_reducible assumption | with_reducible exact Below.refl _ _ | with_reducible refine Below.drew ?_ | with_reducible refine belowDrewN ?_ _ | ((with_reducible refine Below.setCell ?_ ?_ _); rotate_left; focus (first | omega | (simp; done) | (simp; omega))) | ((with_reducible refine Below.alloc ?_ ?_ _); rotate_left; focus (first | omega | (simp; done) | (simp; omega))))))) (by decide) (by decide)).mono ?_
  rintro e w1 ⟨bb, rfl, hc1, ho1⟩
  have hz1 := ho1.size
  simp only [World.size_alloc] at hz1
  have hr1 : SBox w.heap.size 0 0 ⟨#[]⟩ (.slice none 0 0) (.slice none 0 0) w1 := (SBox.new 0 0 ⟨#[]⟩ (.slice none 0 0) (.slice none 0 0) w).only ho1 (.inr (by omega))
  have hoo1 : OnlyIn pb (pb + 1) w w1 := ((OnlyIn.refl _ _ _).new _).trans ho1
  clear ho1
  have HC1 := Lib.hid hc1; clear hc1; have HR1 := Lib.hid hr1; clear hr1; have HOO1 := Lib.hid hoo1; clear hoo1
  cases bb with
  | true =>
    go_wp2_with fail
    refine (l1Any_calls pb a cap l _ HC1.out).mono ?_
    rintro e w2 ⟨k1, n1, s1, ds1, a1, cap1, ms1, rfl, hi1, hm1, hw1, hct1, hc2, ho2⟩
    have hz2 := ho2.size
    have hr2 := HR1.out.only ho2 (.inr (by omega))
    have hoo2 := HOO1.out.trans ho2
    clear ho2
    have HI1 := Lib.hid hi1; clear hi1; have HM1 := Lib.hid hm1; clear hm1; have HW1 := Lib.hid hw1; clear hw1; have HCT1 := Lib.hid hct1; clear hct1; have HC2 := Lib.hid hc2; clear hc2; have HR2 := Lib.hid hr2; clear hr2; have HOO2 := Lib.hid hoo2; clear hoo2
    go_wp2_with fail
    refine (l2Of_calls ds1 k1 n1 s1 a1 cap1 ms1 _ (by have := HCT1.out; omega) HI1.out HM1.out.in_).mono ?_
    rintro e w3 ⟨xa2, xc2, a2, cap2, ms2, rfl, hi2, hm2, hb3⟩
    simp only [Syn.k_mk, Syn.n_mk, Syn.s_mk, Syn.x_mk, Syn.ds_mk, List.length_nil] at hi2 hm2 ⊢
    have hz3 := hb3.size
    obtain ⟨r0, r1, r2, r3, r4, g0, g1, g2, g3, g4⟩ := HR2.out.below hb3 (by omega)
    have hct3 : 1 + Syn.countL (synOfL ds1) ≤ 400 := by rw [synOfL_count]; exact HCT1.out
    have hret := DrawnS.boxed (w := w) (k := k1) (n := n1) (s := s1) (x := []) hi2 hm2 (by omega) (by simpa only [synOf] using synOf_wf1 HW1.out) hct3 (HC2.out.below hb3) (HOO2.out.thenBelow (hb3.mono (by omega))) hpl (by omega)
    simp only [setCells, Nat.zero_add, Nat.reduceAdd, List.length_nil] at hret
    clear hi2 hm2 hb3 hct3
    have HRET := Lib.hid hret; clear hret
    go_wp2_with fail
    refine bodyPost_ret (v := .agg #[.int .i64 k1, .int .i64 n1, .string s1, .slice xa2 0 xc2, .slice a2 ms2.length cap2]) (by simp [results, Try.results52, go_sem, r0, r1, r2, r3, r4]) rfl ?_
    exact HRET.out
  | false =>
    go_wp2_with fail
    refine (l2Draw_calls pb a cap l _ HC1.out).mono ?_
    rintro e w2 ⟨k1, n1, s1, x1, ds1, xa1, xc1, a1, cap1, ms1, rfl, hi1, hm1, hw1, hct1, hc2, ho2⟩
    have hz2 := ho2.size
    have hr2 := HR1.out.only ho2 (.inr (by omega))
    have hoo2 := HOO1.out.trans ho2
    have hcm := (SynOwn_ms hm1).in_.len
    have hcx := Ints.len (SynOwn_x hm1).in_
    clear ho2
    have HI1 := Lib.hid hi1; clear hi1; have HM1 := Lib.hid hm1; clear hm1; have HW1 := Lib.hid hw1; clear hw1; have HCT1 := Lib.hid hct1; clear hct1; have HC2 := Lib.hid hc2; clear hc2; have HR2 := Lib.hid hr2; clear hr2; have HOO2 := Lib.hid hoo2; clear hoo2
    go_wp2_with fail
    refine (l01Once_calls 6 pb a cap l _ (HC2.out.below (by (repeat (first | with_reducible assumption | with_reducible exact Below.refl _ _ | with_reducible refine Below.drew ?_ | with_reducible refine belowDrewN ?_ _ | ((with_reducible refine Below.setCell ?_ ?_ _); rotate_left; focus (first | omega | (simp; done) | (simp; omega))) | ((with_reducible refine Below.alloc ?_ ?_ _); rotate_left; focus (first | omega | (simp; done) | (simp; omega))))))) (by decide) (by decide)).mono ?_
    rintro e w3 ⟨bb, rfl, hc3, ho3⟩
    have hz3 := ho3.size
    simp only [World.size_alloc] at hz3
    have hq3 : SBox w2.heap.size k1 n1 s1 (.slice xa1 x1.length xc1) (.slice a1 ms1.length cap1) w3 := (SBox.new k1 n1 s1 (.slice xa1 x1.length xc1) (.slice a1 ms1.length cap1) w2).only ho3 (.inr (by omega))
    have ho23 : OnlyIn pb (pb + 1) w2 w3 := ((OnlyIn.refl _ _ _).new _).trans ho3
    have hr3 := HR2.out.only ho23 (.inr (by omega))
    have hoo3 := HOO2.out.trans ho23
    have hm3 : (SynOwn 27 xa1 xc1 x1 a1 cap1 ms1).Mine w3 w1.heap.size := HM1.out.keep (fun b h1 h2 => ho23.block b h2 (.inr (by omega)))
    have hlt3 : ∀ b ∈ (SynOwn 27 xa1 xc1 x1 a1 cap1 ms1).blocks, b < w2.heap.size := fun b hb => (HM1.out.lt b hb).2
    clear ho3
    have HC3 := Lib.hid hc3; clear hc3; have HO23 := Lib.hid ho23; clear ho23; have HM3 := Lib.hid hm3; clear hm3; have HOO3 := Lib.hid hoo3; clear hoo3; have HLT3 := Lib.hid hlt3; clear hlt3
    cases bb with
    | false =>
      obtain ⟨r0, r1, r2, r3, r4, g0, g1, g2, g3, g4⟩ := hr3
      obtain ⟨q0, q1, q2, q3, q4, f0, f1, f2, f3, f4⟩ := hq3
      have hret := DrawnS.boxed (w := w) (k := k1) (n := n1) (s := s1) (x := x1) HI1.out HM3.out (by omega) HW1.out HCT1.out HC3.out HOO3.out hpl (by omega)
      simp only [setCells, Nat.zero_add, Nat.reduceAdd] at hret
      have HRET := Lib.hid hret; clear hret
      go_wp2_with fail
      refine bodyPost_ret (v := .agg #[.int .i64 k1, .int .i64 n1, .string s1, .slice xa1 x1.length xc1, .slice a1 ms1.length cap1]) (by simp [results, Try.results52, go_sem, r0, r1, r2, r3, r4]) rfl ?_
      exact HRET.out
    | true =>
      have HR3 := Lib.hid hr3; clear hr3; have HQ3 := Lib.hid hq3; clear hq3
      go_wp2_with fail
      refine (l2AnySet_calls pb a cap l _ HC3.out).mono ?_
      rintro e w4 ⟨L, la, lc, rfl, hL, hLs, hmL, hc4, ho4⟩
      have hz4 := ho4.size
      have hLl := Ints.len hmL.in_
      have hr4 := HR3.out.only ho4 (.inr (by omega))
      have hq4 := HQ3.out.only ho4 (.inr (by omega))
      have hoo4 := HOO3.out.trans ho4
      have hm4 : (SynOwn 27 xa1 xc1 x1 a1 cap1 ms1).Mine w4 w1.heap.size := HM3.out.keep (fun b h1 h2 => ho4.block b h2 (.inr (by omega)))
      have hmx : (SynOwn 27 la lc L a1 cap1 ms1).Mine w4 w1.heap.size := SynOwn_swapX hm4 hmL (by omega) (fun b hb => by have := HLT3.out b (by rw [SynOwn_blocks]; simp [hb]); omega)
      have hmxw : ∀ b ∈ (SynOwn 27 la lc L a1 cap1 ms1).blocks, b ≠ w2.heap.size := fun b hb => by
        rw [SynOwn_blocks] at hb
        rcases List.mem_append.1 hb with h1 | h1
        · have := (hmL.lt b (by simpa [M.blocks, intM_blocks] using h1)).1; omega
        · have := HLT3.out b (by rw [SynOwn_blocks]; simp [h1]); omega
      obtain ⟨q0, q1, q2, q3, q4, f0, f1, f2, f3, f4⟩ := hq4
      have hr5 := hr4.far (a := ⟨w2.heap.size, 3, none⟩) (.slice la L.length lc) (by simp; omega)
      have hm5 : (SynOwn 27 la lc L a1 cap1 ms1).Mine (w4.setCell ⟨w2.heap.size, 3, none⟩ (.slice la L.length lc)) w1.heap.size := hmx.keep2 (fun b hb => heapSet _ _ _ _ (hmxw b hb))
      have hc5 : Cur pb a cap l (w4.setCell ⟨w2.heap.size, 3, none⟩ (.slice la L.length lc)) := hc4.belowB (B := w.heap.size) (Below.setCell (Below.refl _ _) (by simp; omega) _) hpl
      have hoo5 : OnlyIn pb (pb + 1) w (w4.setCell ⟨w2.heap.size, 3, none⟩ (.slice la L.length lc)) := hoo4.thenBelow (Below.setCell (Below.refl _ _) (by simp; omega) _)
      have hret := DrawnS.boxed (w := w) (k := k1) (n := n1) (s := s1) (x := L) HI1.out hm5 (by omega) (HW1.out.setX hL hLs) HCT1.out hc5 hoo5 hpl (by simp; omega)
      simp only [setCells, Nat.zero_add, Nat.reduceAdd] at hret
      obtain ⟨r0, r1, r2, r3, r4, g0, g1, g2, g3, g4⟩ := hr4
      clear hL hLs hmL hc4 ho4 hoo4 hm4 hmx hmxw hr5 hm5 hc5 hoo5
      have HRET := Lib.hid hret; clear hret
      go_wp2_with fail
      refine bodyPost_ret (v := .agg #[.int .i64 k1, .int .i64 n1, .string s1, .slice la L.length lc, .slice a1 ms1.length cap1]) (by simp (disch := (first | omega | (simp; done) | (simp; omega))) [results, Try.results52, go_sem, r0, r1, r2, r3, r4]) rfl ?_
      exact HRET.out
/-- what DrawAddScope hands back -/
def RetDrawnSN (w : World) (e : Ending) (w' : World) : Prop :=
  ∃ (k n : Int) (s : ByteArray) (x : List Int) (ds : List Syn) (xa : Option Addr) (xc : Nat) (a' : Option Addr) (cap' : Nat) (ms : List M) (m : Int), e = .returned (.tuple #[.agg #[.int .i64 k, .int .i64 n, .string s, .slice xa x.length xc, .slice a' ms.length cap'], .int .i64 m]) ∧
    Syn.IsL 27 ds ms ∧ (SynOwn 27 xa xc x a' cap' ms).Mine w' w.heap.size ∧ (Syn.mk k n s x ds).wf1 ∧ 1 + Syn.countL ds ≤ 400 ∧ 0 ≤ m ∧ m ≤ 9 ∧ Below w.heap.size w w'
set_option maxHeartbeats 2000000 in
theorem drawAddScope_calls (a : Option Addr) (cap : Nat) (l : List Int) (w : World) (hin : (M.sl a cap 1 5 (u8M l)).In w) (hu : ∀ z ∈ l, 0 ≤ z ∧ z ≤ 255) (hlen : l.length ≤ 1048576) :
    Calls Try.prog 17 #[.slice a l.length cap] w (RetDrawnSN w) := by
  have HIN := Lib.hid hin; clear hin; have HU := Lib.hid hu; clear hu
  go_enter Try.func17, Try.ntmps17
  go_wp2_with fail
  refine (l01New_calls a cap l _ (HIN.out.below (by (repeat (first | with_reducible assumption | with_reducible exact Below.refl _ _ | with_reducible refine Below.drew ?_ | with_reducible refine belowDrewN ?_ _ | ((with_reducible refine Below.setCell ?_ ?_ _); rotate_left; focus (first | omega | (simp; done) | (simp; omega))) | ((with_reducible refine Below.alloc ?_ ?_ _); rotate_left; focus (first | omega | (simp; done) | (simp; omega))))))) HU.out hlen).mono ?_
  rintro e w1 ⟨pb, rfl, hpb, hc1, hb1⟩
  have hz1 := hb1.size
  simp only [World.size_alloc] at hz1 hpb
  have hp1 := hc1.lt
  have hr1 : SBox w.heap.size 0 0 ⟨#[]⟩ (.slice none 0 0) (.slice none 0 0) w1 := (SBox.new 0 0 ⟨#[]⟩ (.slice none 0 0) (.slice none 0 0) w).below hb1 (by simp)
  have hbw1 : Below w.heap.size w w1 := by (repeat (first | with_reducible assumption | with_reducible exact Below.refl _ _ | with_reducible refine Below.drew ?_ | with_reducible refine belowDrewN ?_ _ | ((with_reducible refine Below.setCell ?_ ?_ _); rotate_left; focus (first | omega | (simp; done) | (simp; omega))) | ((with_reducible refine Below.alloc ?_ ?_ _); rotate_left; focus (first | omega | (simp; done) | (simp; omega))) | ((with_reducible refine Below.trans ?_ (Below.mono hb1 ?_)); rotate_left; focus (first | omega | (simp; done) | (simp; omega)))))
  clear hb1
  have HC1 := Lib.hid hc1; clear hc1; have HR1 := Lib.hid hr1; clear hr1; have HBW1 := Lib.hid hbw1; clear hbw1
  go_wp2_with fail
  refine (l2Any_calls pb a cap l _ HC1.out).mono ?_
  rintro e w2 ⟨k1, n1, s1, x1, ds1, xa1, xc1, a1, cap1, ms1, rfl, hi1, hm1, hw1, hct1, hc2, ho2⟩
  have hz2 := ho2.size
  have hr2 := HR1.out.only ho2 (.inl (by omega))
  have hbw2 : Below w.heap.size w w2 := HBW1.out.trans (ho2.below (by omega) (by omega))
  have hcm := (SynOwn_ms hm1).in_.len
  have hcx := Ints.len (SynOwn_x hm1).in_
  clear ho2
  have HI1 := Lib.hid hi1; clear hi1; have HM1 := Lib.hid hm1; clear hm1; have HW1 := Lib.hid hw1; clear hw1; have HCT1 := Lib.hid hct1; clear hct1; have HC2 := Lib.hid hc2; clear hc2; have HR2 := Lib.hid hr2; clear hr2; have HBW2 := Lib.hid hbw2; clear hbw2
  go_wp2_with fail
  refine (l01Below_calls 10 pb a cap l _ HC2.out (by decide) (by decide)).mono ?_
  rintro e w3 ⟨m, rfl, hm0, hm9, hc3, ho3⟩
  have hz3 := ho3.size
  obtain ⟨r0, r1, r2, r3, r4, g0, g1, g2, g3, g4⟩ := HR2.out.only ho3 (.inl (by omega))
  have hbw3 : Below w.heap.size w w3 := HBW2.out.trans (ho3.below (by omega) (by omega))
  have hm3 : (SynOwn 27 xa1 xc1 x1 a1 cap1 ms1).Mine w3 w1.heap.size := HM1.out.keep (fun b h1 h2 => ho3.block b h2 (.inr (by omega)))
  have hret : RetDrawnSN w (.returned (.tuple #[.agg #[.int .i64 k1, .int .i64 n1, .string s1, .slice xa1 x1.length xc1, .slice a1 ms1.length cap1], .int .i64 m])) (setCells w3 w.heap.size 0 [.int .i64 k1, .int .i64 n1, .string s1, .slice xa1 x1.length xc1, .slice a1 ms1.length cap1]) := by
    have ho4 := setCells_Only w.heap.size (bs := [w.heap.size]) (by simp) [.int .i64 k1, .int .i64 n1, .string s1, .slice xa1 x1.length xc1, .slice a1 ms1.length cap1] w3 0 (Only.refl _ w3)
    exact ⟨k1, n1, s1, x1, ds1, xa1, xc1, a1, cap1, ms1, m, rfl, HI1.out, M.Mine.mono (hm3.only ho4 fun b hb hn => by have := (hm3.lt b hb).1; simp at hn; omega) (by omega), HW1.out, HCT1.out, hm0, by omega, hbw3.trans (ho4.below (by omega) (by simp))⟩
  simp only [setCells, Nat.zero_add, Nat.reduceAdd] at hret
  clear hc3 ho3 hbw3 hm3 hm0 hm9
  have HRET := Lib.hid hret; clear hret
  go_wp2_with fail
  refine bodyPost_ret (v := .tuple #[.agg #[.int .i64 k1, .int .i64 n1, .string s1, .slice xa1 x1.length xc1, .slice a1 ms1.length cap1], .int .i64 m]) (by simp [results, Try.results17, go_sem, r0, r1, r2, r3, r4]) rfl ?_
  exact HRET.out
/-- what DrawSyntaxOf hands back -/
def RetDrawnD (w : World) (e : Ending) (w' : World) : Prop :=
  ∃ (k n : Int) (s : ByteArray) (ds : List Dat) (a' : Option Addr) (cap' : Nat) (ms : List M), e = .returned (.agg #[.int .i64 k, .int .i64 n, .string s, .slice a' ms.length cap']) ∧
    Dat.IsL 52 ds ms ∧ (M.sl a' cap' 4 52 ms).Mine w' w.heap.size ∧ (Dat.mk k n s ds).wf1 ∧ 1 + Dat.countL ds ≤ 400 ∧ Below w.heap.size w w'
theorem drawSyntaxOf_calls (a : Option Addr) (cap : Nat) (l : List Int) (w : World) (hin : (M.sl a cap 1 5 (u8M l)).In w) (hu : ∀ z ∈ l, 0 ≤ z ∧ z ≤ 255) (hlen : l.length ≤ 1048576) :
    Calls Try.prog 28 #[.slice a l.length cap] w (RetDrawnD w) := by
  have HIN := Lib.hid hin; clear hin; have HU := Lib.hid hu; clear hu
  go_enter Try.func28, Try.ntmps28
  go_wp2_with fail
  refine (l01New_calls a cap l _ (HIN.out.below (by (repeat (first | with_reducible assumption | with_reducible exact Below.refl _ _ | with_reducible refine Below.drew ?_ | with_reducible refine belowDrewN ?_ _ | ((with_reducible refine Below.setCell ?_ ?_ _); rotate_left; focus (first | omega | (simp; done) | (simp; omega))) | ((with_reducible refine Below.alloc ?_ ?_ _); rotate_left; focus (first | omega | (simp; done) | (simp; omega))))))) HU.out hlen).mono ?_
  rintro e w1 ⟨pb, rfl, hpb, hc1, hb1⟩
  have hz1 := hb1.size
  simp only [World.size_alloc] at hz1 hpb
  have hp1 := hc1.lt
  have hr1 := (Zero.new w).below hb1 (by simp)
  have hbw1 : Below w.heap.size w w1 := by (repeat (first | with_reducible assumption | with_reducible exact Below.refl _ _ | with_reducible refine Below.drew ?_ | with_reducible refine belowDrewN ?_ _ | ((with_reducible refine Below.setCell ?_ ?_ _); rotate_left; focus (first | omega | (simp; done) | (simp; omega))) | ((with_reducible refine Below.alloc ?_ ?_ _); rotate_left; focus (first | omega | (simp; done) | (simp; omega))) | ((with_reducible refine Below.trans ?_ (Below.mono hb1 ?_)); rotate_left; focus (first | omega | (simp; done) | (simp; omega)))))
  clear hb1
  have HC1 := Lib.hid hc1; clear hc1; have HR1 := Lib.hid hr1; clear hr1; have HBW1 := Lib.hid hbw1; clear hbw1
  go_wp2_with fail
  refine (l1Any_calls pb a cap l _ HC1.out).mono ?_
  rintro e w2 ⟨k1, n1, s1, ds1, a1, cap1, ms1, rfl, hi1, hm1, hw1, hct1, hc2, ho2⟩
  have hz2 := ho2.size
  obtain ⟨r0, r1, r2, r3, g0, g1, g2, g3⟩ := HR1.out.only ho2 (.inl (by omega))
  have hret : RetDrawnD w (.returned (.agg #[.int .i64 k1, .int .i64 n1, .string s1, .slice a1 ms1.length cap1])) (setCells w2 w.heap.size 0 [.int .i64 k1, .int .i64 n1, .string s1, .slice a1 ms1.length cap1]) := by
    have ho4 := setCells_Only w.heap.size (bs := [w.heap.size]) (by simp) [.int .i64 k1, .int .i64 n1, .string s1, .slice a1 ms1.length cap1] w2 0 (Only.refl _ w2)
    exact ⟨k1, n1, s1, ds1, a1, cap1, ms1, rfl, hi1, M.Mine.mono (hm1.only ho4 fun b hb hn => by have := (hm1.lt b hb).1; simp at hn; omega) (by omega), hw1, hct1, (HBW1.out.trans (ho2.below (by omega) (by omega))).trans (ho4.below (by omega) (by simp))⟩
  simp only [setCells, Nat.zero_add, Nat.reduceAdd] at hret
  clear hi1 hm1 hw1 hct1 hc2 ho2
  have HRET := Lib.hid hret; clear hret
  go_wp2_with fail
  refine bodyPost_ret (v := .agg #[.int .i64 k1, .int .i64 n1, .string s1, .slice a1 ms1.length cap1]) (by simp [results, Try.results28, go_sem, r0, r1, r2, r3]) rfl ?_
  exact HRET.out
end Go.Proofs.Ytghbnehocggnnaa

/-
  Plain law: sizes of drawn pieces of syntax whose scopes have been changed. No condition.
-/
set_option linter.unusedVariables false
set_option linter.unusedSimpArgs false
set_option maxRecDepth 100000
namespace Go.Proofs.Ytghbnehocggnnaa
open Go.RowKit

mutual
/-- numbers of the machine, texts of at most 100 bytes, at most 40 scopes -/
def Syn.wf3 : Syn → Prop
  | .mk k n s x ds => I64 k ∧ I64 n ∧ s.size ≤ 100 ∧ x.length ≤ 40 ∧ (∀ z ∈ x, I64 z) ∧ Syn.wf3L ds
def Syn.wf3L : List Syn → Prop
  | [] => True
  | d :: ds => d.wf3 ∧ Syn.wf3L ds
end
mutual
theorem Syn.wf3.wf : ∀ {d : Syn}, d.wf3 → d.wf
  | .mk _ _ _ _ _, h => ⟨h.1, h.2.1, Nat.le_trans h.2.2.1 (by decide), h.2.2.2.2.1, Syn.wf3L.wfL h.2.2.2.2.2⟩
theorem Syn.wf3L.wfL : ∀ {ds : List Syn}, Syn.wf3L ds → Syn.wfL ds
  | [], _ => trivial
  | _ :: _, h => ⟨Syn.wf3.wf h.1, Syn.wf3L.wfL h.2⟩
end
mutual
theorem Syn.wf1.wf3 : ∀ {d : Syn}, d.wf1 → d.wf3
  | .mk _ _ _ _ _, h => ⟨h.1, h.2.1, h.2.2.1, Nat.le_trans h.2.2.2.1 (by decide), h.2.2.2.2.1.I64, Syn.wf1L.wf3L h.2.2.2.2.2⟩
theorem Syn.wf1L.wf3L : ∀ {ds : List Syn}, Syn.wf1L ds → Syn.wf3L ds
  | [], _ => trivial
  | _ :: _, h => ⟨Syn.wf1.wf3 h.1, Syn.wf1L.wf3L h.2⟩
end
theorem Syn.wf3L_wt : ∀ ds : List Syn, Syn.wf3L ds → ds.length + Syn.wtX ds ≤ 141 * Syn.countL ds := by
  refine Syn.inductL fun ds ih hw => ?_
  induction ds with
  | nil => simp [Syn.wtX]
  | cons d r ihr =>
    obtain ⟨k, n, s, x, es⟩ := d
    obtain ⟨⟨_, _, hs, hx, _, he⟩, hr⟩ := hw
    have h1 := ih k n s x es (List.mem_cons_self ..) he
    have h2 := ihr (fun k n s x es hm => ih k n s x es (List.mem_cons_of_mem _ hm)) hr
    simp only [List.length_cons, Syn.wtX, Syn.wt, Syn.countL, Syn.count]
    omega
theorem Syn.wf3.wt_le {k n : Int} {s : ByteArray} {x : List Int} {ds : List Syn} (h : (Syn.mk k n s x ds).wf3) (hc : 1 + Syn.countL ds ≤ 400) : s.size + (x.length + (ds.length + Syn.wtX ds)) ≤ 60000 := by
  obtain ⟨_, _, hs, hx, _, he⟩ := h
  have := Syn.wf3L_wt ds he
  omega
theorem mapSynL_wf3 {F : List Int → List Int} (hF : ∀ x, x.length ≤ 8 → Small x → (F x).length ≤ 40 ∧ ∀ z ∈ F x, I64 z) (ds : List Syn) (h : Syn.wf1L ds) : Syn.wf3L (mapSynL F ds) := by
  revert h
  refine Syn.inductL (P := fun ds => Syn.wf1L ds → Syn.wf3L (mapSynL F ds)) (fun ds ih => ?_) ds
  induction ds with
  | nil => intro _; trivial
  | cons d r ihr =>
    obtain ⟨k, n, s, x, es⟩ := d
    rintro ⟨⟨h1, h2, h3, h4, h5, h6⟩, h7⟩
    have hx : (mapX F k x).length ≤ 40 ∧ ∀ z ∈ mapX F k x, I64 z := by
      unfold mapX
      split
      · exact hF x h4 h5
      · exact ⟨by omega, h5.I64⟩
    exact ⟨⟨h1, h2, h3, hx.1, hx.2, ih k n s x es (List.mem_cons_self ..) h6⟩, ihr (fun k n s x es hm => ih k n s x es (List.mem_cons_of_mem _ hm)) h7⟩
theorem mapG_wf3 {F : List Int → List Int} (hF : ∀ x, x.length ≤ 8 → Small x → (F x).length ≤ 40 ∧ ∀ z ∈ F x, I64 z) (b : Bool) {k n : Int} {s : ByteArray} {x : List Int} {ds : List Syn} (h : (Syn.mk k n s x ds).wf1) : (Syn.mk k n s (mapGx b F k x) (mapGd b F ds)).wf3 := by
  cases b with
  | false => rw [mapGx_no, mapGd_no]; exact h.wf3
  | true =>
    rw [mapGx_yes, mapGd_yes]
    have := mapSynL_wf3 hF [.mk k n s x ds] ⟨h, trivial⟩
    exact this.1
theorem mapSynL_wf33 {F : List Int → List Int} (hF : ∀ x, x.length ≤ 40 → (∀ z ∈ x, I64 z) → (F x).length ≤ 40 ∧ ∀ z ∈ F x, I64 z) (ds : List Syn) (h : Syn.wf3L ds) : Syn.wf3L (mapSynL F ds) := by
  revert h
  refine Syn.inductL (P := fun ds => Syn.wf3L ds → Syn.wf3L (mapSynL F ds)) (fun ds ih => ?_) ds
  induction ds with
  | nil => intro _; trivial
  | cons d r ihr =>
    obtain ⟨k, n, s, x, es⟩ := d
    rintro ⟨⟨h1, h2, h3, h4, h5, h6⟩, h7⟩
    have hx : (mapX F k x).length ≤ 40 ∧ ∀ z ∈ mapX F k x, I64 z := by
      unfold mapX
      split
      · exact hF x h4 h5
      · exact ⟨h4, h5⟩
    exact ⟨⟨h1, h2, h3, hx.1, hx.2, ih k n s x es (List.mem_cons_self ..) h6⟩, ihr (fun k n s x es hm => ih k n s x es (List.mem_cons_of_mem _ hm)) h7⟩
theorem mapG_wf33 {F : List Int → List Int} (hF : ∀ x, x.length ≤ 40 → (∀ z ∈ x, I64 z) → (F x).length ≤ 40 ∧ ∀ z ∈ F x, I64 z) (b : Bool) {k n : Int} {s : ByteArray} {x : List Int} {ds : List Syn} (h : (Syn.mk k n s x ds).wf3) : (Syn.mk k n s (mapGx b F k x) (mapGd b F ds)).wf3 := by
  cases b with
  | false => rw [mapGx_no, mapGd_no]; exact h
  | true =>
    rw [mapGx_yes, mapGd_yes]
    have := mapSynL_wf33 hF [.mk k n s x ds] ⟨h, trivial⟩
    exact this.1
theorem putStep_mem2 {n x : Int} {st : List Int × Bool} {z : Int} (h : z ∈ (putStep n st x).1) : z ∈ st.1 ∨ z = n ∨ z = x := by
  unfold putStep at h
  split at h
  · split at h
    · simp only [List.mem_append, List.mem_singleton] at h; grind
    · simp only [List.mem_append, List.mem_singleton] at h; grind
  · simp only [List.mem_append, List.mem_singleton] at h; grind
theorem putSt_mem2 (n : Int) (l : List Int) : ∀ k, k ≤ l.length → ∀ z ∈ (putSt n (l.take k)).1, z ∈ l ∨ z = n
  | 0, _, z, hz => by simp [putSt] at hz
  | k + 1, hk, z, hz => by
    have hx : l[k]? = some l[k] := List.getElem?_eq_getElem (by omega)
    rw [putSt_succ hx] at hz
    rcases putStep_mem2 hz with h | h | h
    · exact putSt_mem2 n l k (by omega) z h
    · exact .inr h
    · subst h; exact .inl (List.getElem_mem (by omega))
theorem put_mem2 {n : Int} {l : List Int} {z : Int} (h : z ∈ put n l) : z ∈ l ∨ z = n := by
  have hs := putSt_mem2 n l l.length (Nat.le_refl _)
  rw [List.take_length] at hs
  unfold put at h
  split at h
  · exact hs z h
  · rcases List.mem_append.1 h with h | h
    · exact hs z h
    · simp at h; exact .inr h
theorem put_small {m : Int} (h0 : 0 ≤ m) (h1 : m ≤ 9) (x : List Int) (hl : x.length ≤ 8) (hx : Small x) : (put m x).length ≤ 40 ∧ ∀ z ∈ put m x, I64 z := by
  refine ⟨by have := put_length m x; omega, fun z hz => ?_⟩
  rcases put_mem2 hz with h | h
  · exact hx.I64 z h
  · subst h; unfold I64; omega
theorem flip_small {m : Int} (h0 : 0 ≤ m) (h1 : m ≤ 9) (x : List Int) (hl : x.length ≤ 8) (hx : Small x) : (flipSo m x).length ≤ 40 ∧ ∀ z ∈ flipSo m x, I64 z := by
  unfold flipSo flipS
  split
  · unfold flipL
    split
    · exact ⟨by have := dropN_length m x; omega, fun z hz => hx.I64 z (dropN_mem.1 hz).1⟩
    · exact put_small h0 h1 x hl hx
  · exact ⟨by omega, hx.I64⟩
theorem woUse_small (x : List Int) (hl : x.length ≤ 40) (hx : ∀ z ∈ x, I64 z) : (woUse x).length ≤ 40 ∧ ∀ z ∈ woUse x, I64 z := by
  refine ⟨by have := woUse_length x; omega, fun z hz => ?_⟩
  unfold woUse at hz
  split at hz
  · exact hx z (List.mem_filter.1 hz).1
  · exact hx z hz
end Go.Proofs.Ytghbnehocggnnaa
