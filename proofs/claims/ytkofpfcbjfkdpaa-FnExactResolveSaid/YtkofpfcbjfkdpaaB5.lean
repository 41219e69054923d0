/-
  Walks: Candidates. No condition.
-/
import Derived.Test.YtkofpfcbjfkdpaaB4
import Derived.Test.YtkofpfcbjfkdpaaY9
set_option linter.unusedVariables false
set_option linter.unusedSimpArgs false
set_option maxRecDepth 100000
namespace Go.Proofs.Ytkofpfcbjfkdpaa
open Go.RowKit

theorem candG_no (s : ByteArray) (x : List Int) (ds : List Bnd) : candG false s x ds = [] := rfl
theorem candG_yes (s : ByteArray) (x : List Int) (ds : List Bnd) : candG true s x ds = cands s x ds := rfl
theorem Bnd.wtX_filter (p : Bnd → Bool) (ds : List Bnd) : Bnd.wtX (ds.filter p) ≤ Bnd.wtX ds := by
  induction ds with
  | nil => simp
  | cons d r ih => rw [List.filter_cons]; split <;> simp only [Bnd.wtX] <;> omega
theorem Bnd.placesL_filter (p : Bnd → Bool) (ds : List Bnd) : Bnd.placesL (ds.filter p) ≤ Bnd.placesL ds := by
  induction ds with
  | nil => simp
  | cons d r ih => rw [List.filter_cons]; split <;> simp only [Bnd.placesL] <;> omega
theorem candG_places (ok : Bool) (s : ByteArray) (x : List Int) (ds : List Bnd) : Bnd.placesL (candG ok s x ds) ≤ Bnd.placesL ds := by
  cases ok with
  | false => simp [candG_no, Bnd.placesL]
  | true => exact Bnd.placesL_filter _ _
set_option maxHeartbeats 4000000 in
theorem iCandidates_calls (ds : List Bnd) (a : Option Addr) (cap : Nat) (ms : List M) (k n : Int) (s : ByteArray) (x : List Int) (es : List Syn) (xa : Option Addr) (xc : Nat) (ia : Option Addr) (ic : Nat) (ims : List M) (w : World) (hwf : Bnd.wfL ds) (hs9 : ∀ d ∈ ds, d.s.size ≤ 1048576)
    (hB : ds.length + Bnd.wtX ds ≤ 4000000) (hi : Bnd.IsL ds ms) (hin : (M.sl a cap 4 49 ms).In w) (hwf2 : (Syn.mk k n s x es).wf) (hcB : Syn.countL es ≤ 1000000000) (hi2 : Syn.IsL 43 es ims) (hown : (SynOwn 43 xa xc x ia ic ims).In w) :
    Calls Try.prog 87 #[.slice a ms.length cap, .agg #[.int .i64 k, .int .i64 n, .string s, .slice xa x.length xc, .slice ia ims.length ic]] w (RetBnds 49 (candG (areB ds && isIdB k n s x es) s x ds) w) := by
  have hl := hi.length
  have hcap := hin.len
  have hx := SynIn_x hown
  have hxl := Ints.len hx
  have HI := Lib.hid hi; clear hi; have HIN := Lib.hid hin; clear hin; have HX := Lib.hid hx; clear hx; have HWF := Lib.hid hwf; clear hwf; have HS9 := Lib.hid hs9; clear hs9; have HL := Lib.hid hl; clear hl; have HI2 := Lib.hid hi2; clear hi2; have HOWN := Lib.hid hown; clear hown; have HWF2 := Lib.hid hwf2; clear hwf2
  go_enter Try.func87, Try.ntmps87
  go_wp2_with fail
  refine (iAreBindings_calls ds a cap ms _ HWF.out HI.out (HIN.out.below (by (repeat (first | with_reducible assumption | with_reducible exact Below.refl _ _ | with_reducible refine Below.drew ?_ | with_reducible refine belowDrewN ?_ _ | ((with_reducible refine Below.setCell ?_ ?_ _); rotate_left; focus (first | omega | (simp; done) | (simp; omega))) | ((with_reducible refine Below.alloc ?_ ?_ _); rotate_left; focus (first | omega | (simp; done) | (simp; omega))))))) HS9.out).mono ?_
  rintro e w1 ⟨rfl, hb1⟩
  have hq1 : SBox w.heap.size k n s (.slice xa x.length xc) (.slice ia ims.length ic) w1 := (SBox.new k n s (.slice xa x.length xc) (.slice ia ims.length ic) w).below hb1 (by simp)
  have hz1 := hb1.size
  simp only [World.size_alloc] at hz1
  cases hA : areB ds with
  | false =>
    have hno : candG (areB ds && isIdB k n s x es) s x ds = [] := by rw [hA]; rfl
    have HA := Lib.hid hA; clear hA; have HNO := Lib.hid hno; clear hno
    clear hq1
    go_wp2_with fail
    go_ret
    exact ⟨none, 0, [], rfl, by rw [HNO.out]; rfl, M.Mine.nil _ _ _ _ (by decide), by (repeat (first | with_reducible assumption | with_reducible exact Below.refl _ _ | with_reducible refine Below.drew ?_ | with_reducible refine belowDrewN ?_ _ | ((with_reducible refine Below.setCell ?_ ?_ _); rotate_left; focus (first | omega | (simp; done) | (simp; omega))) | ((with_reducible refine Below.alloc ?_ ?_ _); rotate_left; focus (first | omega | (simp; done) | (simp; omega))) | ((with_reducible refine Below.trans ?_ (Below.mono hb1 ?_)); rotate_left; focus (first | omega | (simp; done) | (simp; omega)))))⟩
  | true =>
    have p0 := hq1.lt
    obtain ⟨q0, q1, q2, q3, q4, f0, f1, f2, f3, f4⟩ := hq1
    go_wp2_with fail
    refine (iIsIdentifier_calls k n s x es xa xc ia ic ims _ HWF2.out hcB HI2.out (HOWN.out.below (by (repeat (first | with_reducible assumption | with_reducible exact Below.refl _ _ | with_reducible refine Below.drew ?_ | with_reducible refine belowDrewN ?_ _ | ((with_reducible refine Below.setCell ?_ ?_ _); rotate_left; focus (first | omega | (simp; done) | (simp; omega))) | ((with_reducible refine Below.alloc ?_ ?_ _); rotate_left; focus (first | omega | (simp; done) | (simp; omega))) | ((with_reducible refine Below.trans ?_ (Below.mono hb1 ?_)); rotate_left; focus (first | omega | (simp; done) | (simp; omega)))))))).mono ?_
    rintro e w2 ⟨rfl, hb2⟩
    have hq2 : SBox w.heap.size k n s (.slice xa x.length xc) (.slice ia ims.length ic) w2 := SBox.below ⟨q0, q1, q2, q3, q4, f0, f1, f2, f3, f4⟩ hb2 p0
    clear q0 q1 q2 q3 q4 f0 f1 f2 f3 f4
    have hz2 := hb2.size
    cases hid : isIdB k n s x es with
    | false =>
      have hno : candG (areB ds && isIdB k n s x es) s x ds = [] := by rw [hA, hid]; rfl
      have HA := Lib.hid hA; clear hA; have HID := Lib.hid hid; clear hid; have HNO := Lib.hid hno; clear hno
      clear hq2
      go_wp2_with fail
      go_ret
      exact ⟨none, 0, [], rfl, by rw [HNO.out]; rfl, M.Mine.nil _ _ _ _ (by decide), by (repeat (first | with_reducible assumption | with_reducible exact Below.refl _ _ | with_reducible refine Below.drew ?_ | with_reducible refine belowDrewN ?_ _ | ((with_reducible refine Below.setCell ?_ ?_ _); rotate_left; focus (first | omega | (simp; done) | (simp; omega))) | ((with_reducible refine Below.alloc ?_ ?_ _); rotate_left; focus (first | omega | (simp; done) | (simp; omega))) | ((with_reducible refine Below.trans ?_ (Below.mono hb1 ?_)); rotate_left; focus (first | omega | (simp; done) | (simp; omega))) | ((with_reducible refine Below.trans ?_ (Below.mono hb2 ?_)); rotate_left; focus (first | omega | (simp; done) | (simp; omega)))))⟩
    | true =>
      have hno : candG (areB ds && isIdB k n s x es) s x ds = cands s x ds := by rw [hA, hid]; rfl
      have hbz : Below w.heap.size w w2 := by (repeat (first | with_reducible assumption | with_reducible exact Below.refl _ _ | with_reducible refine Below.drew ?_ | with_reducible refine belowDrewN ?_ _ | ((with_reducible refine Below.setCell ?_ ?_ _); rotate_left; focus (first | omega | (simp; done) | (simp; omega))) | ((with_reducible refine Below.alloc ?_ ?_ _); rotate_left; focus (first | omega | (simp; done) | (simp; omega))) | ((with_reducible refine Below.trans ?_ (Below.mono hb1 ?_)); rotate_left; focus (first | omega | (simp; done) | (simp; omega))) | ((with_reducible refine Below.trans ?_ (Below.mono hb2 ?_)); rotate_left; focus (first | omega | (simp; done) | (simp; omega)))))
      have HA := Lib.hid hA; clear hA; have HID := Lib.hid hid; clear hid; have HNO := Lib.hid hno; clear hno; have HQ2 := Lib.hid hq2; clear hq2
      go_wp2_with fail
      go_loopw [5, 18] (fun t i wr => ∃ (j : Nat) (a' : Option Addr) (cap' : Nat) (ms' : List M), j ≤ ms.length ∧ i = .int .i64 j ∧ t = .slice a' ms'.length cap' ∧ Bnd.IsL (cands s x (ds.take j)) ms' ∧ (M.sl a' cap' 4 49 ms').Mine wr (w.heap.size + 1) ∧
          SBox w.heap.size k n s (.slice xa x.length xc) (.slice ia ims.length ic) wr ∧ Below w.heap.size w wr ∧ w.heap.size + 1 ≤ wr.heap.size) (fun _ i _ => ms.length - (intOf i).toNat)
      case atStart => exact ⟨0, none, 0, [], Nat.zero_le _, rfl, rfl, by simp [cands, Bnd.IsL], M.Mine.nil _ _ _ _ (by decide), HQ2.out, hbz, by omega⟩
      case round =>
        obtain ⟨j, a', cap', ms', hj, rfl, rfl, hi', hm', hq, hb, hsz⟩ := hrel
        by_cases hlt : j < ms.length
        · obtain ⟨b, off, s1, x1, k1, n1, xa1, xc1, rfl, hd, hx1, c0, c1, c2, c3⟩ := Bnd.elem (HIN.out.below hb) HI.out j hlt
          have hle : x1.length ≤ 4000000 := Bnd.x_le hd (by omega)
          have hlen' : ms'.length ≤ j := by
            have h1 := hi'.length; have h2 := cands_length s x (ds.take j); have h3 : (ds.take j).length ≤ j := List.length_take_le _ _; omega
          have p1 := hq.lt
          have hq0 := hq
          obtain ⟨q0, q1, q2, q3, q4, f0, f1, f2, f3, f4⟩ := hq
          by_cases hs : s1 = s
          · have hss : (s1.toList == s.toList) = true := by rw [hs]; simp
            cases hsub : subB x1 x with
            | true =>
              have hcy := candB_yes (b := .mk s1 x1 k1 n1) hs hsub
              have hst := cands_yes hd hcy
              have HD := Lib.hid hd; clear hd; have HX1 := Lib.hid hx1; clear hx1; have HI' := Lib.hid hi'; clear hi'; have HM' := Lib.hid hm'; clear hm'; have HS := Lib.hid hs; clear hs; have HCY := Lib.hid hcy; clear hcy; have HST := Lib.hid hst; clear hst; have HQ0 := Lib.hid hq0; clear hq0
              go_wp2_with fail
              refine (iWithin_eq xa1 xc1 x1 xa xc x _ (HX1.out.below (by (repeat (first | with_reducible assumption | with_reducible exact Below.refl _ _ | with_reducible refine Below.drew ?_ | with_reducible refine belowDrewN ?_ _ | ((with_reducible refine Below.setCell ?_ ?_ _); rotate_left; focus (first | omega | (simp; done) | (simp; omega))) | ((with_reducible refine Below.alloc ?_ ?_ _); rotate_left; focus (first | omega | (simp; done) | (simp; omega))))))) (HX.out.below (by (repeat (first | with_reducible assumption | with_reducible exact Below.refl _ _ | with_reducible refine Below.drew ?_ | with_reducible refine belowDrewN ?_ _ | ((with_reducible refine Below.setCell ?_ ?_ _); rotate_left; focus (first | omega | (simp; done) | (simp; omega))) | ((with_reducible refine Below.alloc ?_ ?_ _); rotate_left; focus (first | omega | (simp; done) | (simp; omega)))))))).mono ?_
              rintro e w3 ⟨rfl, rfl⟩
              go_wp2_with fail
              refine (copyBinding_calls s1 x1 k1 n1 xa1 xc1 _ hle (HX1.out.below (by (repeat (first | with_reducible assumption | with_reducible exact Below.refl _ _ | with_reducible refine Below.drew ?_ | with_reducible refine belowDrewN ?_ _ | ((with_reducible refine Below.setCell ?_ ?_ _); rotate_left; focus (first | omega | (simp; done) | (simp; omega))) | ((with_reducible refine Below.alloc ?_ ?_ _); rotate_left; focus (first | omega | (simp; done) | (simp; omega)))))))).mono ?_
              rintro e w3 ⟨xa2, xc2, rfl, hm2, hb2'⟩
              have hz3 := hb2'.size
              simp only [World.size_alloc] at hz3
              simp only [Bnd.s_mk, Bnd.x_mk, Bnd.k_mk, Bnd.n_mk] at hm2 ⊢
              have hbA : Below wr.heap.size wr w3 := by (repeat (first | with_reducible assumption | with_reducible exact Below.refl _ _ | with_reducible refine Below.drew ?_ | with_reducible refine belowDrewN ?_ _ | ((with_reducible refine Below.setCell ?_ ?_ _); rotate_left; focus (first | omega | (simp; done) | (simp; omega))) | ((with_reducible refine Below.alloc ?_ ?_ _); rotate_left; focus (first | omega | (simp; done) | (simp; omega))) | ((with_reducible refine Below.trans ?_ (Below.mono hb2' ?_)); rotate_left; focus (first | omega | (simp; done) | (simp; omega)))))
              go_wp2_with (at_builtin; refine wpList_push (wr := wr) rfl _ _ 39 rfl 49 _ 4 56 Try.underlying39 infoBnd rfl (by decide) (w.heap.size + 1) a' cap' ms' rfl HM'.out hsz ?below _ (bndM s1 xa2 xc2 x1 k1 n1) ?cells rfl _ (bndM_mine hm2 s1 k1 n1) ?lo rfl ?max ?bytes ?_)
              case below => exact hbA
              case cells => exact bndM_cells _ _ _ _ _ _
              case lo => simp
              case max => unfold maxLen; omega
              case bytes => have := HL.out; omega
              intro a3 cap3 w4 hm3 hb3 hz4 hfr3
              have hfin : Bnd.IsL (cands s x (ds.take (j + 1))) (ms' ++ [bndM s1 xa2 xc2 x1 k1 n1]) := by
                rw [HST.out]; exact HI'.out.snoc ⟨_, _, rfl⟩
              have hq4 := (HQ0.out.below hbA p1).below hb3 (by omega)
              have hbf : Below w.heap.size w w4 := by (repeat (first | with_reducible assumption | with_reducible exact Below.refl _ _ | with_reducible refine Below.drew ?_ | with_reducible refine belowDrewN ?_ _ | ((with_reducible refine Below.setCell ?_ ?_ _); rotate_left; focus (first | omega | (simp; done) | (simp; omega))) | ((with_reducible refine Below.alloc ?_ ?_ _); rotate_left; focus (first | omega | (simp; done) | (simp; omega))) | ((with_reducible refine Below.trans ?_ (Below.mono hb ?_)); rotate_left; focus (first | omega | (simp; done) | (simp; omega))) | ((with_reducible refine Below.trans ?_ (Below.mono hbA ?_)); rotate_left; focus (first | omega | (simp; done) | (simp; omega))) | ((with_reducible refine Below.trans ?_ (Below.mono hb3 ?_)); rotate_left; focus (first | omega | (simp; done) | (simp; omega)))))
              have HM3 := Lib.hid hm3; clear hm3; have HFIN := Lib.hid hfin; clear hfin; have HFR3 := Lib.hid hfr3; clear hfr3; have HM2 := Lib.hid hm2; clear hm2; have HQ4 := Lib.hid hq4; clear hq4
              go_wp2_with fail
              go_roundw
              case rel => exact ⟨j + 1, a3, cap3, _, by omega, by go_num, by simp, HFIN.out, HM3.out, HQ4.out, hbf, by omega⟩
              case measure => simp [intOf]; omega
            | false =>
              have hcn := candB_no2 (s := s) (x := x) (b := .mk s1 x1 k1 n1) hsub
              have hst := cands_no hd hcn
              have hq1' := (hq0.below (B := wr.heap.size) (w' := wr.alloc (.cells #[.string s1, .slice xa1 x1.length xc1, .int .i64 k1, .int .i64 n1] 49)) (by (repeat (first | with_reducible assumption | with_reducible exact Below.refl _ _ | with_reducible refine Below.drew ?_ | with_reducible refine belowDrewN ?_ _ | ((with_reducible refine Below.setCell ?_ ?_ _); rotate_left; focus (first | omega | (simp; done) | (simp; omega))) | ((with_reducible refine Below.alloc ?_ ?_ _); rotate_left; focus (first | omega | (simp; done) | (simp; omega)))))) p1)
              have HD := Lib.hid hd; clear hd; have HX1 := Lib.hid hx1; clear hx1; have HI' := Lib.hid hi'; clear hi'; have HM' := Lib.hid hm'; clear hm'; have HS := Lib.hid hs; clear hs; have HCN := Lib.hid hcn; clear hcn; have HST := Lib.hid hst; clear hst; have HQ0 := Lib.hid hq0; clear hq0; have HQ1' := Lib.hid hq1'; clear hq1'
              go_wp2_with fail
              refine (iWithin_eq xa1 xc1 x1 xa xc x _ (HX1.out.below (by (repeat (first | with_reducible assumption | with_reducible exact Below.refl _ _ | with_reducible refine Below.drew ?_ | with_reducible refine belowDrewN ?_ _ | ((with_reducible refine Below.setCell ?_ ?_ _); rotate_left; focus (first | omega | (simp; done) | (simp; omega))) | ((with_reducible refine Below.alloc ?_ ?_ _); rotate_left; focus (first | omega | (simp; done) | (simp; omega))))))) (HX.out.below (by (repeat (first | with_reducible assumption | with_reducible exact Below.refl _ _ | with_reducible refine Below.drew ?_ | with_reducible refine belowDrewN ?_ _ | ((with_reducible refine Below.setCell ?_ ?_ _); rotate_left; focus (first | omega | (simp; done) | (simp; omega))) | ((with_reducible refine Below.alloc ?_ ?_ _); rotate_left; focus (first | omega | (simp; done) | (simp; omega)))))))).mono ?_
              rintro e w3 ⟨rfl, rfl⟩
              go_wp2_with fail
              go_roundw
              case rel => exact ⟨j + 1, a', cap', ms', by omega, by go_num, rfl, by rw [HST.out]; exact HI'.out, HM'.out.below (by (repeat (first | with_reducible assumption | with_reducible exact Below.refl _ _ | with_reducible refine Below.drew ?_ | with_reducible refine belowDrewN ?_ _ | ((with_reducible refine Below.setCell ?_ ?_ _); rotate_left; focus (first | omega | (simp; done) | (simp; omega))) | ((with_reducible refine Below.alloc ?_ ?_ _); rotate_left; focus (first | omega | (simp; done) | (simp; omega)))))), HQ1'.out, by (repeat (first | with_reducible assumption | with_reducible exact Below.refl _ _ | with_reducible refine Below.drew ?_ | with_reducible refine belowDrewN ?_ _ | ((with_reducible refine Below.setCell ?_ ?_ _); rotate_left; focus (first | omega | (simp; done) | (simp; omega))) | ((with_reducible refine Below.alloc ?_ ?_ _); rotate_left; focus (first | omega | (simp; done) | (simp; omega))) | ((with_reducible refine Below.trans ?_ (Below.mono hb ?_)); rotate_left; focus (first | omega | (simp; done) | (simp; omega))))), by simp; omega⟩
              case measure => simp [intOf]; omega
          · have hss := ba_ne hs
            have hcn := candB_no1 (s := s) (x := x) (b := .mk s1 x1 k1 n1) hs
            have hst := cands_no hd hcn
            have hq1' := (hq0.below (B := wr.heap.size) (w' := wr.alloc (.cells #[.string s1, .slice xa1 x1.length xc1, .int .i64 k1, .int .i64 n1] 49)) (by (repeat (first | with_reducible assumption | with_reducible exact Below.refl _ _ | with_reducible refine Below.drew ?_ | with_reducible refine belowDrewN ?_ _ | ((with_reducible refine Below.setCell ?_ ?_ _); rotate_left; focus (first | omega | (simp; done) | (simp; omega))) | ((with_reducible refine Below.alloc ?_ ?_ _); rotate_left; focus (first | omega | (simp; done) | (simp; omega)))))) p1)
            have HD := Lib.hid hd; clear hd; have HX1 := Lib.hid hx1; clear hx1; have HI' := Lib.hid hi'; clear hi'; have HM' := Lib.hid hm'; clear hm'; have HS := Lib.hid hs; clear hs; have HCN := Lib.hid hcn; clear hcn; have HST := Lib.hid hst; clear hst; have HQ0 := Lib.hid hq0; clear hq0; have HQ1' := Lib.hid hq1'; clear hq1'
            go_wp2_with fail
            go_roundw
            case rel => exact ⟨j + 1, a', cap', ms', by omega, by go_num, rfl, by rw [HST.out]; exact HI'.out, HM'.out.below (by (repeat (first | with_reducible assumption | with_reducible exact Below.refl _ _ | with_reducible refine Below.drew ?_ | with_reducible refine belowDrewN ?_ _ | ((with_reducible refine Below.setCell ?_ ?_ _); rotate_left; focus (first | omega | (simp; done) | (simp; omega))) | ((with_reducible refine Below.alloc ?_ ?_ _); rotate_left; focus (first | omega | (simp; done) | (simp; omega)))))), HQ1'.out, by (repeat (first | with_reducible assumption | with_reducible exact Below.refl _ _ | with_reducible refine Below.drew ?_ | with_reducible refine belowDrewN ?_ _ | ((with_reducible refine Below.setCell ?_ ?_ _); rotate_left; focus (first | omega | (simp; done) | (simp; omega))) | ((with_reducible refine Below.alloc ?_ ?_ _); rotate_left; focus (first | omega | (simp; done) | (simp; omega))) | ((with_reducible refine Below.trans ?_ (Below.mono hb ?_)); rotate_left; focus (first | omega | (simp; done) | (simp; omega))))), by simp; omega⟩
            case measure => simp [intOf]; omega
        · have hj2 : j = ms.length := by omega
          subst hj2
          rw [HL.out, List.take_length] at hi'
          have HI' := Lib.hid hi'; clear hi'; have HM' := Lib.hid hm'; clear hm'; have HQ := Lib.hid hq; clear hq
          go_wp2_with fail
          go_ret
          exact ⟨a', cap', ms', rfl, by rw [HNO.out]; exact HI'.out, HM'.out.mono (by omega), hb⟩
/-- Bindings handed back whose scopes lie where they lay. -/
def RetBndsIn (e : TypeId) (ds : List Bnd) (w : World) (en : Ending) (w' : World) : Prop :=
  ∃ a cap ms, en = .returned (.slice a ms.length cap) ∧ Bnd.IsL ds ms ∧ (M.sl a cap 4 e ms).In w' ∧ Below w.heap.size w w'
theorem ownsRow_in {w : World} {lo cap : Nat} {a : Option Addr} {e : TypeId} {ms : List M} (h : w.ownsRow lo e 4 (.slice a ms.length cap) ms.length (M.cellsL ms)) (hc : ∀ m ∈ ms, m.cells.length = 4) (hi : M.InL w ms) : (M.sl a cap 4 e ms).In w :=
  ⟨⟨ownsRow_hdr h (by decide), hc⟩, hi⟩
theorem bnds_cells : ∀ {ds : List Bnd} {ms : List M}, Bnd.IsL ds ms → ∀ m ∈ ms, m.cells.length = 4
  | [], ms, h => by simp [Bnd.IsL] at h; subst h; simp
  | d :: r, ms, h => by
    obtain ⟨m, q, rfl, h1, h2⟩ := h
    intro y hy
    rcases List.mem_cons.1 hy with rfl | hy
    · obtain ⟨s, x, k, n⟩ := d; obtain ⟨xa, xc, rfl⟩ := h1; simp [bndM_cells]
    · exact bnds_cells h2 y hy
theorem ownsRow_below {w w' : World} {lo sz n cap : Nat} {e : TypeId} {a : Option Addr} {cs : List Value} (h : w.ownsRow lo e sz (.slice a n cap) n cs) (hb : Below w.heap.size w w') : w'.ownsRow lo e sz (.slice a n cap) n cs :=
  ownsRow_frame h fun b hb' => hb.block b (h.lt b (addrBlocks_own.2 hb')).2
set_option maxHeartbeats 4000000 in
theorem l3Candidates_calls (ds : List Bnd) (a : Option Addr) (cap : Nat) (ms : List M) (k n : Int) (s : ByteArray) (x : List Int) (xa : Option Addr) (xc : Nat) (ia : Option Addr) (il ic : Nat) (w : World)
    (hB : ds.length + Bnd.wtX ds ≤ 4000000) (hi : Bnd.IsL ds ms) (hin : (M.sl a cap 4 49 ms).In w) (hx : (M.sl xa xc 1 3 (intM x)).In w) :
    Calls Try.prog 158 #[.slice a ms.length cap, .agg #[.int .i64 k, .int .i64 n, .string s, .slice xa x.length xc, .slice ia il ic]] w (RetBndsIn 49 (cands s x ds) w) := by
  have hl := hi.length
  have hcap := hin.len
  have hxl := Ints.len hx
  have HI := Lib.hid hi; clear hi; have HIN := Lib.hid hin; clear hin; have HX := Lib.hid hx; clear hx; have HL := Lib.hid hl; clear hl
  go_enter Try.func158, Try.ntmps158
  go_wp2_with fail
  go_loopw [5, 11] (fun t i wr => ∃ (j : Nat) (a' : Option Addr) (cap' : Nat) (ms' : List M), j ≤ ms.length ∧ i = .int .i64 j ∧ t = .slice a' ms'.length cap' ∧ Bnd.IsL (cands s x (ds.take j)) ms' ∧ wr.ownsRow (w.heap.size + 1) 49 4 (.slice a' ms'.length cap') ms'.length (M.cellsL ms') ∧ M.InL w ms' ∧
      SBox w.heap.size k n s (.slice xa x.length xc) (.slice ia il ic) wr ∧ Below w.heap.size w wr ∧ w.heap.size + 1 ≤ wr.heap.size) (fun _ i _ => ms.length - (intOf i).toNat)
  case atStart => exact ⟨0, _, 0, [], Nat.zero_le _, rfl, rfl, by simp [cands, Bnd.IsL], (by have h := (M.Mine.new (lo := w.heap.size + 1) (w := w.alloc (.cells #[.int .i64 k, .int .i64 n, .string s, .slice xa x.length xc, .slice ia il ic] 43)) (sz := 4) (e := 49) (xs := []) (cs := #[]) rfl (by simp) rfl (by decide) (by simp) (by simp [maxLen]) ⟨trivial, by simp [M.blocksL]⟩).own.1.1; simpa using h), trivial, (SBox.new _ _ _ _ _ _).of (heapNew _ _ _ (by simp)), by (repeat (first | with_reducible assumption | with_reducible exact Below.refl _ _ | with_reducible refine Below.drew ?_ | with_reducible refine belowDrewN ?_ _ | ((with_reducible refine Below.setCell ?_ ?_ _); rotate_left; focus (first | omega | (simp; done) | (simp; omega))) | ((with_reducible refine Below.alloc ?_ ?_ _); rotate_left; focus (first | omega | (simp; done) | (simp; omega))))), by simp⟩
  case round =>
    obtain ⟨j, a', cap', ms', hj, rfl, rfl, hi', hrow, hil, hq, hb, hsz⟩ := hrel
    by_cases hlt : j < ms.length
    · obtain ⟨b, off, s1, x1, k1, n1, xa1, xc1, rfl, hd, hx1, d0, d1, d2, d3⟩ := Bnd.elem HIN.out HI.out j hlt
      have hbl := World.block_lt_of_cell? w _ d0
      have c0 := (hb.cell (p := ⟨b, off + j * 4, none⟩) hbl).trans d0
      have c1 := (hb.cell (p := ⟨b, off + j * 4 + 1, none⟩) hbl).trans d1
      have c2 := (hb.cell (p := ⟨b, off + j * 4 + 2, none⟩) hbl).trans d2
      have c3 := (hb.cell (p := ⟨b, off + j * 4 + 3, none⟩) hbl).trans d3
      clear d0 d1 d2 d3
      have hlen' : ms'.length ≤ j := by
        have h1 := hi'.length; have h2 := cands_length s x (ds.take j); have h3 : (ds.take j).length ≤ j := List.length_take_le _ _; omega
      have p1 := hq.lt
      have hq0 := hq
      obtain ⟨q0, q1, q2, q3, q4, f0, f1, f2, f3, f4⟩ := hq
      have hbB : Below w.heap.size w (wr.alloc (.cells #[.string s1, .slice xa1 x1.length xc1, .int .i64 k1, .int .i64 n1] 49)) := by (repeat (first | with_reducible assumption | with_reducible exact Below.refl _ _ | with_reducible refine Below.drew ?_ | with_reducible refine belowDrewN ?_ _ | ((with_reducible refine Below.setCell ?_ ?_ _); rotate_left; focus (first | omega | (simp; done) | (simp; omega))) | ((with_reducible refine Below.alloc ?_ ?_ _); rotate_left; focus (first | omega | (simp; done) | (simp; omega))) | ((with_reducible refine Below.trans ?_ (Below.mono hb ?_)); rotate_left; focus (first | omega | (simp; done) | (simp; omega)))))
      have hq1' := (hq0.below (B := wr.heap.size) (w' := wr.alloc (.cells #[.string s1, .slice xa1 x1.length xc1, .int .i64 k1, .int .i64 n1] 49)) (by (repeat (first | with_reducible assumption | with_reducible exact Below.refl _ _ | with_reducible refine Below.drew ?_ | with_reducible refine belowDrewN ?_ _ | ((with_reducible refine Below.setCell ?_ ?_ _); rotate_left; focus (first | omega | (simp; done) | (simp; omega))) | ((with_reducible refine Below.alloc ?_ ?_ _); rotate_left; focus (first | omega | (simp; done) | (simp; omega)))))) p1)
      have hrow1 := ownsRow_below hrow (w' := wr.alloc (.cells #[.string s1, .slice xa1 x1.length xc1, .int .i64 k1, .int .i64 n1] 49)) (by (repeat (first | with_reducible assumption | with_reducible exact Below.refl _ _ | with_reducible refine Below.drew ?_ | with_reducible refine belowDrewN ?_ _ | ((with_reducible refine Below.setCell ?_ ?_ _); rotate_left; focus (first | omega | (simp; done) | (simp; omega))) | ((with_reducible refine Below.alloc ?_ ?_ _); rotate_left; focus (first | omega | (simp; done) | (simp; omega))))))
      by_cases hs : s1 = s
      · have hss : (s1.toList == s.toList) = true := by rw [hs]; simp
        cases hsub : subB x1 x with
        | true =>
          have hcy := candB_yes (b := .mk s1 x1 k1 n1) hs hsub
          have hst := cands_yes hd hcy
          have HD := Lib.hid hd; clear hd; have HX1 := Lib.hid hx1; clear hx1; have HI' := Lib.hid hi'; clear hi'; have HROW := Lib.hid hrow; clear hrow; have HROW1 := Lib.hid hrow1; clear hrow1; have HIL := Lib.hid hil; clear hil; have HS := Lib.hid hs; clear hs; have HCY := Lib.hid hcy; clear hcy; have HST := Lib.hid hst; clear hst; have HQ0 := Lib.hid hq0; clear hq0; have HQ1' := Lib.hid hq1'; clear hq1'
          go_wp2_with fail
          refine (sWithin_eq xa1 xc1 x1 xa xc x _ (HX1.out.below (by (repeat (first | with_reducible assumption | with_reducible exact Below.refl _ _ | with_reducible refine Below.drew ?_ | with_reducible refine belowDrewN ?_ _ | ((with_reducible refine Below.setCell ?_ ?_ _); rotate_left; focus (first | omega | (simp; done) | (simp; omega))) | ((with_reducible refine Below.alloc ?_ ?_ _); rotate_left; focus (first | omega | (simp; done) | (simp; omega))) | ((with_reducible refine Below.trans ?_ (Below.mono hb ?_)); rotate_left; focus (first | omega | (simp; done) | (simp; omega))))))) (HX.out.below (by (repeat (first | with_reducible assumption | with_reducible exact Below.refl _ _ | with_reducible refine Below.drew ?_ | with_reducible refine belowDrewN ?_ _ | ((with_reducible refine Below.setCell ?_ ?_ _); rotate_left; focus (first | omega | (simp; done) | (simp; omega))) | ((with_reducible refine Below.alloc ?_ ?_ _); rotate_left; focus (first | omega | (simp; done) | (simp; omega))) | ((with_reducible refine Below.trans ?_ (Below.mono hb ?_)); rotate_left; focus (first | omega | (simp; done) | (simp; omega)))))))).mono ?_
          rintro e w3 ⟨rfl, rfl⟩
          go_wp2_with (at_builtin; refine wpList_row _ rfl _ _ 39 rfl 49 _ 4 56 Try.underlying39 infoBnd rfl (by decide) (w.heap.size + 1) a' ms'.length cap' (M.cellsL ms') rfl ?own (some ⟨wr.heap.size + 1, 0, none⟩) 1 1 [.string s1, .slice xa1 x1.length xc1, .int .i64 k1, .int .i64 n1] rfl rfl ?no ?news ?one ?max ?bytes ?base ?_)
          case own => exact ownsRow_below HROW1.out (by (repeat (first | with_reducible assumption | with_reducible exact Below.refl _ _ | with_reducible refine Below.drew ?_ | with_reducible refine belowDrewN ?_ _ | ((with_reducible refine Below.setCell ?_ ?_ _); rotate_left; focus (first | omega | (simp; done) | (simp; omega))) | ((with_reducible refine Below.alloc ?_ ?_ _); rotate_left; focus (first | omega | (simp; done) | (simp; omega))))))
          case no => simp
          case news =>
            intro ad had i u hu
            obtain rfl := Option.some.inj had
            rw [addr_add, Nat.zero_add]
            rw [show wr.heap.size + 1 = (wr.alloc (.cells #[.string s1, .slice xa1 x1.length xc1, .int .i64 k1, .int .i64 n1] 49)).heap.size by simp, World.cell?_alloc_new]
            simpa using hu
          case one => intro u hu; simp at hu; rcases hu with rfl | rfl | rfl | rfl <;> rfl
          case max => unfold maxLen; omega
          case bytes => have := HL.out; omega
          case base => simp; omega
          intro a3 cap3 w4 hr4 hg4 ha4
          have hz4 := hg4.size
          simp only [World.size_alloc] at hz4
          have hfin : Bnd.IsL (cands s x (ds.take (j + 1))) (ms' ++ [bndM s1 xa1 xc1 x1 k1 n1]) := by
            rw [HST.out]; exact HI'.out.snoc ⟨_, _, rfl⟩
          have hbC : Below (w.heap.size + 1) (wr.alloc (.cells #[.string s1, .slice xa1 x1.length xc1, .int .i64 k1, .int .i64 n1] 49)) w4 :=
            ((Below.refl _ _).alloc (by simp; omega) _).trans (grownBy_below (lo := w.heap.size + 1) hg4 (by simp; omega) fun b hb => (HROW.out.lt b (addrBlocks_own.2 hb)).1)
          have hq4 := HQ1'.out.below hbC (by omega)
          have hbf : Below w.heap.size w w4 := hbB.trans (hbC.mono (by omega))
          have hrow4 : w4.ownsRow (w.heap.size + 1) 49 4 (.slice a3 (ms' ++ [bndM s1 xa1 xc1 x1 k1 n1]).length cap3) (ms' ++ [bndM s1 xa1 xc1 x1 k1 n1]).length (M.cellsL (ms' ++ [bndM s1 xa1 xc1 x1 k1 n1])) := by
            rw [M.cellsL_append]; simpa [M.cellsL, bndM_cells] using hr4
          have hil4 : M.InL w (ms' ++ [bndM s1 xa1 xc1 x1 k1 n1]) := (M.InL_append _ _).2 ⟨HIL.out, ⟨trivial, HX1.out, trivial, trivial, trivial⟩, trivial⟩
          have HFIN := Lib.hid hfin; clear hfin; have HR4 := Lib.hid hr4; clear hr4; have HG4 := Lib.hid hg4; clear hg4; have HA4 := Lib.hid ha4; clear ha4; have HROW4 := Lib.hid hrow4; clear hrow4; have HIL4 := Lib.hid hil4; clear hil4; have HQ4 := Lib.hid hq4; clear hq4
          go_wp2_with fail
          go_roundw
          case rel => exact ⟨j + 1, a3, cap3, ms' ++ [bndM s1 xa1 xc1 x1 k1 n1], by omega, by go_num, by simp, HFIN.out, HROW4.out, HIL4.out, HQ4.out, hbf, by omega⟩
          case measure => simp [intOf]; omega
        | false =>
          have hcn := candB_no2 (s := s) (x := x) (b := .mk s1 x1 k1 n1) hsub
          have hst := cands_no hd hcn
          have HD := Lib.hid hd; clear hd; have HX1 := Lib.hid hx1; clear hx1; have HI' := Lib.hid hi'; clear hi'; have HROW := Lib.hid hrow; clear hrow; have HROW1 := Lib.hid hrow1; clear hrow1; have HIL := Lib.hid hil; clear hil; have HS := Lib.hid hs; clear hs; have HCN := Lib.hid hcn; clear hcn; have HST := Lib.hid hst; clear hst; have HQ0 := Lib.hid hq0; clear hq0; have HQ1' := Lib.hid hq1'; clear hq1'
          go_wp2_with fail
          refine (sWithin_eq xa1 xc1 x1 xa xc x _ (HX1.out.below (by (repeat (first | with_reducible assumption | with_reducible exact Below.refl _ _ | with_reducible refine Below.drew ?_ | with_reducible refine belowDrewN ?_ _ | ((with_reducible refine Below.setCell ?_ ?_ _); rotate_left; focus (first | omega | (simp; done) | (simp; omega))) | ((with_reducible refine Below.alloc ?_ ?_ _); rotate_left; focus (first | omega | (simp; done) | (simp; omega))) | ((with_reducible refine Below.trans ?_ (Below.mono hb ?_)); rotate_left; focus (first | omega | (simp; done) | (simp; omega))))))) (HX.out.below (by (repeat (first | with_reducible assumption | with_reducible exact Below.refl _ _ | with_reducible refine Below.drew ?_ | with_reducible refine belowDrewN ?_ _ | ((with_reducible refine Below.setCell ?_ ?_ _); rotate_left; focus (first | omega | (simp; done) | (simp; omega))) | ((with_reducible refine Below.alloc ?_ ?_ _); rotate_left; focus (first | omega | (simp; done) | (simp; omega))) | ((with_reducible refine Below.trans ?_ (Below.mono hb ?_)); rotate_left; focus (first | omega | (simp; done) | (simp; omega)))))))).mono ?_
          rintro e w3 ⟨rfl, rfl⟩
          go_wp2_with fail
          go_roundw
          case rel => exact ⟨j + 1, a', cap', ms', by omega, by go_num, rfl, by rw [HST.out]; exact HI'.out, HROW1.out, HIL.out, HQ1'.out, hbB, by simp; omega⟩
          case measure => simp [intOf]; omega
      · have hss := ba_ne hs
        have hcn := candB_no1 (s := s) (x := x) (b := .mk s1 x1 k1 n1) hs
        have hst := cands_no hd hcn
        have HD := Lib.hid hd; clear hd; have HX1 := Lib.hid hx1; clear hx1; have HI' := Lib.hid hi'; clear hi'; have HROW := Lib.hid hrow; clear hrow; have HROW1 := Lib.hid hrow1; clear hrow1; have HIL := Lib.hid hil; clear hil; have HS := Lib.hid hs; clear hs; have HCN := Lib.hid hcn; clear hcn; have HST := Lib.hid hst; clear hst; have HQ0 := Lib.hid hq0; clear hq0; have HQ1' := Lib.hid hq1'; clear hq1'
        go_wp2_with fail
        go_roundw
        case rel => exact ⟨j + 1, a', cap', ms', by omega, by go_num, rfl, by rw [HST.out]; exact HI'.out, HROW1.out, HIL.out, HQ1'.out, hbB, by simp; omega⟩
        case measure => simp [intOf]; omega
    · have hj2 : j = ms.length := by omega
      subst hj2
      rw [HL.out, List.take_length] at hi'
      have hfin := ownsRow_in hrow (bnds_cells hi') (M.InL.frame (fun p v hc => (hb.cell (p := p) (World.block_lt_of_cell? w p hc)).trans hc) _ hil)
      have HI' := Lib.hid hi'; clear hi'; have HROW := Lib.hid hrow; clear hrow; have HQ := Lib.hid hq; clear hq; have HIL := Lib.hid hil; clear hil; have HFIN := Lib.hid hfin; clear hfin
      go_wp2_with fail
      go_ret
      exact ⟨a', cap', ms', rfl, HI'.out, HFIN.out, hb⟩
end Go.Proofs.Ytkofpfcbjfkdpaa
