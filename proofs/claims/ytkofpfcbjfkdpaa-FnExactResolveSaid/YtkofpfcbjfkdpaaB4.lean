/-
  Walks: the reference's AddBinding. No condition.
-/
import Derived.Test.YtkofpfcbjfkdpaaB3
set_option linter.unusedVariables false
set_option linter.unusedSimpArgs false
set_option maxRecDepth 100000
namespace Go.Proofs.Ytkofpfcbjfkdpaa
open Go.RowKit

theorem Bnd.IsL.append : ∀ {xs ys : List Bnd} {ms ns : List M}, Bnd.IsL xs ms → Bnd.IsL ys ns → Bnd.IsL (xs ++ ys) (ms ++ ns)
  | [], _, ms, _, h, h2 => by simp [Bnd.IsL] at h; subst h; simpa using h2
  | x :: xs, ys, ms, ns, h, h2 => by
    obtain ⟨m, r, rfl, h1, h3⟩ := h
    exact ⟨m, r ++ ns, rfl, h1, Bnd.IsL.append h3 h2⟩
theorem MineL.of {w : World} {lo cap sz : Nat} {a : Option Addr} {e : TypeId} {ys : List M} (h : (M.sl a cap sz e ys).Mine w lo) : M.MineL w lo ys :=
  ⟨h.own.2, by have := h.dup; simp only [M.blocks] at this; exact (List.nodup_append.1 this).2.1⟩
/-- a row of one binding that lies in a new block -/
theorem one_in {w : World} {s : ByteArray} {x : List Int} {k n : Int} {xa : Option Addr} {xc : Nat} (hx : (M.sl xa xc 1 3 (intM x)).In w) :
    (M.sl (some ⟨w.heap.size, 0, none⟩) 1 4 49 [bndM s xa xc x k n]).In (w.alloc (.cells #[.string s, .slice xa x.length xc, .int .i64 k, .int .i64 n] 49)) := by
  have hb : Below w.heap.size w (w.alloc (.cells #[.string s, .slice xa x.length xc, .int .i64 k, .int .i64 n] 49)) := (Below.refl _ _).alloc (Nat.le_refl _) _
  refine ⟨⟨⟨by simp [M.cellsL, bndM_cells], by decide, by simp, by simp [maxLen], by simp, fun ad had j u hu => ?_⟩, by simp [bndM_cells]⟩, ⟨⟨trivial, hx.below hb, trivial, trivial, trivial⟩, trivial⟩⟩
  obtain rfl := Option.some.inj had
  rw [addr_add, Nat.zero_add, World.cell?_alloc_new]
  simp only [M.cellsL, List.append_nil, bndM_cells] at hu
  simpa using hu
theorem Bnd.IsL.one (s : ByteArray) (x : List Int) (k n : Int) (xa : Option Addr) (xc : Nat) : Bnd.IsL [.mk s x k n] [bndM s xa xc x k n] := ⟨_, _, rfl, ⟨_, _, rfl⟩, rfl⟩
theorem l3Copy_one (s : ByteArray) (x : List Int) (k n : Int) (xa : Option Addr) (xc : Nat) (a : Option Addr) (w : World) (hB : s.size + x.length ≤ 3000000) (hin : (M.sl a 1 4 49 [bndM s xa xc x k n]).In w) :
    Calls Try.prog 132 #[.slice a 1 1] w (RetBnds 49 [.mk s x k n] w) :=
  l3Copy_calls [.mk s x k n] a 1 [bndM s xa xc x k n] w (by simp [Bnd.wtX, Bnd.wt]; omega) (Bnd.IsL.one _ _ _ _ _ _) hin
/-- may it be added to valid ones -/
noncomputable def roomOk (ds : List Bnd) (s : ByteArray) (x : List Int) : Bool := decide (ds.length < 1000) && !clashB ds s x
noncomputable def roomTo (ds : List Bnd) (s : ByteArray) (x : List Int) (k n : Int) : List Bnd := if roomOk ds s x = true then ds ++ [.mk s x k n] else ds
theorem roomTo_no {ds : List Bnd} {s : ByteArray} {x : List Int} {k n : Int} (h : roomOk ds s x = false) : roomTo ds s x k n = ds := by simp [roomTo, h]
theorem roomTo_yes {ds : List Bnd} {s : ByteArray} {x : List Int} {k n : Int} (h : roomOk ds s x = true) : roomTo ds s x k n = ds ++ [.mk s x k n] := by simp [roomTo, h]
/-- What adding to one's own bindings hands back. -/
def RetAdd2 (e : TypeId) (lo : Nat) (ds : List Bnd) (b : Bool) (w : World) (en : Ending) (w' : World) : Prop :=
  ∃ a cap ms, en = .returned (.tuple #[.slice a ms.length cap, .bool b]) ∧ Bnd.IsL ds ms ∧ (M.sl a cap 4 e ms).Mine w' lo ∧ Below w.heap.size w w'
set_option maxHeartbeats 4000000 in
theorem l3Add_calls (ds : List Bnd) (a : Option Addr) (cap : Nat) (ms : List M) (s : ByteArray) (x : List Int) (k n : Int) (xa : Option Addr) (xc : Nat) (lo : Nat) (w : World)
    (hB : ds.length + Bnd.wtX ds ≤ 4000000) (hxB : s.size + x.length ≤ 3000000) (hi : Bnd.IsL ds ms) (hin : (M.sl a cap 4 49 ms).Mine w lo) (hlo : lo ≤ w.heap.size) (hx : (M.sl xa xc 1 3 (intM x)).In w) :
    Calls Try.prog 133 #[.slice a ms.length cap, .agg #[.string s, .slice xa x.length xc, .int .i64 k, .int .i64 n]] w (RetAdd2 49 lo (roomTo ds s x k n) (roomOk ds s x) w) := by
  have hl := hi.length
  have hcap := hin.in_.len
  have hxl := Ints.len hx
  have HI := Lib.hid hi; clear hi; have HIN := Lib.hid hin; clear hin; have HX := Lib.hid hx; clear hx; have HL := Lib.hid hl; clear hl
  by_cases h1000 : ds.length < 1000
  · have hm1000 : ¬ (1000 : Int) ≤ (ms.length : Int) := by rw [HL.out]; omega
    go_enter Try.func133, Try.ntmps133
    go_wp2_with fail
    refine (l3Clash_of ds a cap ms ms.length rfl s x k n xa xc _ HI.out ((HIN.out.in_).below (by (repeat (first | with_reducible assumption | with_reducible exact Below.refl _ _ | with_reducible refine Below.drew ?_ | with_reducible refine belowDrewN ?_ _ | ((with_reducible refine Below.setCell ?_ ?_ _); rotate_left; focus (first | omega | (simp; done) | (simp; omega))) | ((with_reducible refine Below.alloc ?_ ?_ _); rotate_left; focus (first | omega | (simp; done) | (simp; omega))))))) (HX.out.below (by (repeat (first | with_reducible assumption | with_reducible exact Below.refl _ _ | with_reducible refine Below.drew ?_ | with_reducible refine belowDrewN ?_ _ | ((with_reducible refine Below.setCell ?_ ?_ _); rotate_left; focus (first | omega | (simp; done) | (simp; omega))) | ((with_reducible refine Below.alloc ?_ ?_ _); rotate_left; focus (first | omega | (simp; done) | (simp; omega)))))))).mono ?_
    rintro e w3 ⟨rfl, hb3⟩
    have q3' : BBox w.heap.size s (.slice xa x.length xc) k n w3 := (BBox.new s (.slice xa x.length xc) k n w).below hb3 (by simp)
    have hz3 := hb3.size
    simp only [World.size_alloc] at hz3
    cases hC : clashB ds s x with
    | true =>
      have hno : roomOk ds s x = false := by simp [roomOk, hC]
      have HNO := Lib.hid hno; clear hno; have HC := Lib.hid hC; clear hC
      go_wp2_with fail
      go_ret2
      exact ⟨a, cap, ms, by rw [HNO.out]; rfl, by rw [roomTo_no HNO.out]; exact HI.out, HIN.out.below (by (repeat (first | with_reducible assumption | with_reducible exact Below.refl _ _ | with_reducible refine Below.drew ?_ | with_reducible refine belowDrewN ?_ _ | ((with_reducible refine Below.setCell ?_ ?_ _); rotate_left; focus (first | omega | (simp; done) | (simp; omega))) | ((with_reducible refine Below.alloc ?_ ?_ _); rotate_left; focus (first | omega | (simp; done) | (simp; omega))) | ((with_reducible refine Below.trans ?_ (Below.mono hb3 ?_)); rotate_left; focus (first | omega | (simp; done) | (simp; omega)))))), by (repeat (first | with_reducible assumption | with_reducible exact Below.refl _ _ | with_reducible refine Below.drew ?_ | with_reducible refine belowDrewN ?_ _ | ((with_reducible refine Below.setCell ?_ ?_ _); rotate_left; focus (first | omega | (simp; done) | (simp; omega))) | ((with_reducible refine Below.alloc ?_ ?_ _); rotate_left; focus (first | omega | (simp; done) | (simp; omega))) | ((with_reducible refine Below.trans ?_ (Below.mono hb3 ?_)); rotate_left; focus (first | omega | (simp; done) | (simp; omega)))))⟩
    | false =>
      have hno : roomOk ds s x = true := by simp [roomOk, hC, h1000]
      have hbz : Below w.heap.size w w3 := by (repeat (first | with_reducible assumption | with_reducible exact Below.refl _ _ | with_reducible refine Below.drew ?_ | with_reducible refine belowDrewN ?_ _ | ((with_reducible refine Below.setCell ?_ ?_ _); rotate_left; focus (first | omega | (simp; done) | (simp; omega))) | ((with_reducible refine Below.alloc ?_ ?_ _); rotate_left; focus (first | omega | (simp; done) | (simp; omega))) | ((with_reducible refine Below.trans ?_ (Below.mono hb3 ?_)); rotate_left; focus (first | omega | (simp; done) | (simp; omega)))))
      have p3 : w.heap.size < w3.heap.size := by omega
      have HNO := Lib.hid hno; clear hno; have HC := Lib.hid hC; clear hC
      go_wp2_with fail
      have hs0 := q3'
      go_region_held3 (fun w' => w'.cell? ⟨w.heap.size, 0, none⟩ = some (.string s) ∧ w'.cell? ⟨w.heap.size, 1, none⟩ = some (.slice xa x.length xc) ∧ w'.cell? ⟨w.heap.size, 2, none⟩ = some (.int .i64 k) ∧ w'.cell? ⟨w.heap.size, 3, none⟩ = some (.int .i64 n))
        (first | (with_reducible exact ⟨hs9.c0, hs9.c1, hs9.c2, hs9.c3⟩) | (with_reducible exact ⟨cellNew hs9.c0, cellNew hs9.c1, cellNew hs9.c2, cellNew hs9.c3⟩) | (simp only [World.cell?_drew]; first | (with_reducible exact ⟨hs9.c0, hs9.c1, hs9.c2, hs9.c3⟩) | (with_reducible exact ⟨cellNew hs9.c0, cellNew hs9.c1, cellNew hs9.c2, cellNew hs9.c3⟩)) | (with_reducible exact ⟨hs8.c0, hs8.c1, hs8.c2, hs8.c3⟩) | (with_reducible exact ⟨cellNew hs8.c0, cellNew hs8.c1, cellNew hs8.c2, cellNew hs8.c3⟩) | (simp only [World.cell?_drew]; first | (with_reducible exact ⟨hs8.c0, hs8.c1, hs8.c2, hs8.c3⟩) | (with_reducible exact ⟨cellNew hs8.c0, cellNew hs8.c1, cellNew hs8.c2, cellNew hs8.c3⟩)) | (with_reducible exact ⟨hs6.c0, hs6.c1, hs6.c2, hs6.c3⟩) | (with_reducible exact ⟨cellNew hs6.c0, cellNew hs6.c1, cellNew hs6.c2, cellNew hs6.c3⟩) | (simp only [World.cell?_drew]; first | (with_reducible exact ⟨hs6.c0, hs6.c1, hs6.c2, hs6.c3⟩) | (with_reducible exact ⟨cellNew hs6.c0, cellNew hs6.c1, cellNew hs6.c2, cellNew hs6.c3⟩)) | (with_reducible exact ⟨hs5.c0, hs5.c1, hs5.c2, hs5.c3⟩) | (with_reducible exact ⟨cellNew hs5.c0, cellNew hs5.c1, cellNew hs5.c2, cellNew hs5.c3⟩) | (simp only [World.cell?_drew]; first | (with_reducible exact ⟨hs5.c0, hs5.c1, hs5.c2, hs5.c3⟩) | (with_reducible exact ⟨cellNew hs5.c0, cellNew hs5.c1, cellNew hs5.c2, cellNew hs5.c3⟩)) | (with_reducible exact ⟨hs0.c0, hs0.c1, hs0.c2, hs0.c3⟩) | (with_reducible exact ⟨cellNew hs0.c0, cellNew hs0.c1, cellNew hs0.c2, cellNew hs0.c3⟩) | (simp only [World.cell?_drew]; first | (with_reducible exact ⟨hs0.c0, hs0.c1, hs0.c2, hs0.c3⟩) | (with_reducible exact ⟨cellNew hs0.c0, cellNew hs0.c1, cellNew hs0.c2, cellNew hs0.c3⟩)))
        (first
          | (go_at_call 132; (with_reducible refine (l3Copy_calls ds a cap ms _ hB HI.out ((HIN.out.in_).below (by (repeat (first | with_reducible assumption | with_reducible exact Below.refl _ _ | with_reducible refine Below.drew ?_ | with_reducible refine belowDrewN ?_ _ | ((with_reducible refine Below.setCell ?_ ?_ _); rotate_left; focus (first | omega | (simp; done) | (simp; omega))) | ((with_reducible refine Below.alloc ?_ ?_ _); rotate_left; focus (first | omega | (simp; done) | (simp; omega))) | ((with_reducible refine Below.trans ?_ (Below.mono hbz ?_)); rotate_left; focus (first | omega | (simp; done) | (simp; omega))) | ((with_reducible refine Below.trans ?_ (Below.mono hb6 ?_)); rotate_left; focus (first | omega | (simp; done) | (simp; omega)))))))).mono ?_); rintro e w5 ⟨a5, cap5, ms5, rfl, hi5, hm5, hb5⟩; (first | (have hs8 : BBox w.heap.size s (.slice xa x.length xc) k n w5 := hs6.of ((hb5.block _ (by have := hb6.size; simp at this ⊢; omega)).trans (by first | with_reducible rfl | exact heapDrew _ _ | exact heapNew _ _ _ hs6.lt)); have hrow : (M.sl a5 cap5 4 49 ms5).Mine w5 w3.heap.size := hm5.mono (by have := hb6.size; simp at this ⊢; omega); have hoth : (M.sl a6 cap6 4 49 ms6).Mine w5 w3.heap.size := (hm6.below hb5).mono (by simp)) | (have hs5 : BBox w.heap.size s (.slice xa x.length xc) k n w5 := hs0.of ((hb5.block _ (by simp; omega)).trans (by first | with_reducible rfl | exact heapDrew _ _ | exact heapNew _ _ _ hs0.lt)))))
          | (go_at_call 132; refine (l3Copy_one s x k n xa xc _ _ hxB (by first | exact one_in (HX.out.below (by (repeat (first | with_reducible assumption | with_reducible exact Below.refl _ _ | with_reducible refine Below.drew ?_ | with_reducible refine belowDrewN ?_ _ | ((with_reducible refine Below.setCell ?_ ?_ _); rotate_left; focus (first | omega | (simp; done) | (simp; omega))) | ((with_reducible refine Below.alloc ?_ ?_ _); rotate_left; focus (first | omega | (simp; done) | (simp; omega))) | ((with_reducible refine Below.trans ?_ (Below.mono hbz ?_)); rotate_left; focus (first | omega | (simp; done) | (simp; omega))) | ((with_reducible refine Below.trans ?_ (Below.mono hb5 ?_)); rotate_left; focus (first | omega | (simp; done) | (simp; omega))))))) | exact (one_in (HX.out.below (by (repeat (first | with_reducible assumption | with_reducible exact Below.refl _ _ | with_reducible refine Below.drew ?_ | with_reducible refine belowDrewN ?_ _ | ((with_reducible refine Below.setCell ?_ ?_ _); rotate_left; focus (first | omega | (simp; done) | (simp; omega))) | ((with_reducible refine Below.alloc ?_ ?_ _); rotate_left; focus (first | omega | (simp; done) | (simp; omega))) | ((with_reducible refine Below.trans ?_ (Below.mono hbz ?_)); rotate_left; focus (first | omega | (simp; done) | (simp; omega)))))))).below (by (repeat (first | with_reducible assumption | with_reducible exact Below.refl _ _ | with_reducible refine Below.drew ?_ | with_reducible refine belowDrewN ?_ _ | ((with_reducible refine Below.setCell ?_ ?_ _); rotate_left; focus (first | omega | (simp; done) | (simp; omega))) | ((with_reducible refine Below.alloc ?_ ?_ _); rotate_left; focus (first | omega | (simp; done) | (simp; omega))) | ((with_reducible refine Below.trans ?_ (Below.mono hb5 ?_)); rotate_left; focus (first | omega | (simp; done) | (simp; omega)))))))).mono ?_; rintro e w6 ⟨a6, cap6, ms6, rfl, hi6, hm6, hb6⟩; (first | (have hs8 : BBox w.heap.size s (.slice xa x.length xc) k n w6 := hs5.of ((hb6.block _ (by have := hb5.size; simp at this ⊢; omega)).trans (by first | with_reducible rfl | exact heapDrew _ _ | exact heapNew _ _ _ hs5.lt)); have hrow : (M.sl a5 cap5 4 49 ms5).Mine w6 w3.heap.size := (M.Mine.keep hm5 (fun b h1 h2 => by first | exact hb6.block b h2 | exact (hb6.block b (by simp; omega)).trans (heapNew _ _ _ h2))).mono (by simp); have hoth : (M.sl a6 cap6 4 49 ms6).Mine w6 w3.heap.size := hm6.mono (by have := hb5.size; simp at this ⊢; omega)) | (have hs6 : BBox w.heap.size s (.slice xa x.length xc) k n w6 := hs0.of ((hb6.block _ (by simp; omega)).trans (by first | with_reducible rfl | exact heapDrew _ _ | exact heapNew _ _ _ hs0.lt)))))
          | (refine step_app rfl _ _ 39 rfl 49 _ 4 56 Try.underlying39 infoBnd rfl (by decide) w3.heap.size a5 cap5 ms5 rfl hrow (by have := hb5.size; have := hb6.size; simp at *; omega) a6 cap6 49 ms6 rfl hoth.in_ (MineL.of hoth) (by intro b hb hn; have h1 := hm5.lt b hn; have h2 := hm6.lt b (by simp [M.blocks, hb]); have h3 := hb5.size; have h4 := hb6.size; simp only [World.size_drew, World.size_alloc] at h1 h2 h3 h4; omega) (by have := hi5.length; have := hi6.length; simp at this; unfold maxLen; omega) (by have := hi5.length; have := hi6.length; simp at this; omega) ?_; intro a9 cap9 w9 hm9 hb9 hz9 hfr9; have hs9 : BBox w.heap.size s (.slice xa x.length xc) k n w9 := hs8.of (hb9.block _ p3)))
      all_goals
        have hml : (ms5 ++ ms6).length = ms5.length + ms6.length := by simp
        have hfin : Bnd.IsL (ds ++ [.mk s x k n]) (ms5 ++ ms6) := hi5.append hi6
        have hz5 := hb5.size
        have hz6 := hb6.size
        (try simp only [World.size_alloc, World.size_drew] at hz5 hz6)
        have hbf : Below w.heap.size w w9 := by (repeat (first | with_reducible assumption | with_reducible exact Below.refl _ _ | with_reducible refine Below.drew ?_ | with_reducible refine belowDrewN ?_ _ | ((with_reducible refine Below.setCell ?_ ?_ _); rotate_left; focus (first | omega | (simp; done) | (simp; omega))) | ((with_reducible refine Below.alloc ?_ ?_ _); rotate_left; focus (first | omega | (simp; done) | (simp; omega))) | ((with_reducible refine Below.trans ?_ (Below.mono hbz ?_)); rotate_left; focus (first | omega | (simp; done) | (simp; omega))) | ((with_reducible refine Below.trans ?_ (Below.mono hb5 ?_)); rotate_left; focus (first | omega | (simp; done) | (simp; omega))) | ((with_reducible refine Below.trans ?_ (Below.mono hb6 ?_)); rotate_left; focus (first | omega | (simp; done) | (simp; omega))) | ((with_reducible refine Below.trans ?_ (Below.mono hb9 ?_)); rotate_left; focus (first | omega | (simp; done) | (simp; omega)))))
        have HFIN := Lib.hid hfin; clear hfin; have HM9 := Lib.hid hm9; clear hm9; have HI5 := Lib.hid hi5; clear hi5; have HM5 := Lib.hid hm5; clear hm5; have HM6 := Lib.hid hm6; clear hm6; have HI6 := Lib.hid hi6; clear hi6; have HROW := Lib.hid hrow; clear hrow; have HOTH := Lib.hid hoth; clear hoth
        go_wp2_with fail
        go_ret2
        exact ⟨a9, cap9, ms5 ++ ms6, by rw [HNO.out, hml]; rfl, by rw [roomTo_yes HNO.out]; exact HFIN.out, by exact HM9.out.mono (by omega), hbf⟩
  · have hm1000 : (1000 : Int) ≤ (ms.length : Int) := by rw [HL.out]; omega
    have hno : roomOk ds s x = false := by simp [roomOk, h1000]
    have HNO := Lib.hid hno; clear hno
    go_enter Try.func133, Try.ntmps133
    go_wp2_with fail
    go_ret2
    exact ⟨a, cap, ms, by rw [HNO.out]; rfl, by rw [roomTo_no HNO.out]; exact HI.out, HIN.out.below (by (repeat (first | with_reducible assumption | with_reducible exact Below.refl _ _ | with_reducible refine Below.drew ?_ | with_reducible refine belowDrewN ?_ _ | ((with_reducible refine Below.setCell ?_ ?_ _); rotate_left; focus (first | omega | (simp; done) | (simp; omega))) | ((with_reducible refine Below.alloc ?_ ?_ _); rotate_left; focus (first | omega | (simp; done) | (simp; omega)))))), by (repeat (first | with_reducible assumption | with_reducible exact Below.refl _ _ | with_reducible refine Below.drew ?_ | with_reducible refine belowDrewN ?_ _ | ((with_reducible refine Below.setCell ?_ ?_ _); rotate_left; focus (first | omega | (simp; done) | (simp; omega))) | ((with_reducible refine Below.alloc ?_ ?_ _); rotate_left; focus (first | omega | (simp; done) | (simp; omega)))))⟩
theorem add_room {ds : List Bnd} {s : ByteArray} {x : List Int} {k n : Int} (h1 : areB ds = true) (h2 : bndOk s x k n = true) : addOk ds s x k n = roomOk ds s x ∧ addTo ds s x k n = roomTo ds s x k n := by
  have h : addOk ds s x k n = roomOk ds s x := by simp [addOk, roomOk, h1, h2]
  exact ⟨h, by unfold addTo roomTo; rw [h]⟩
set_option maxHeartbeats 2000000 in
theorem sAddBinding_calls (ds : List Bnd) (a : Option Addr) (cap : Nat) (ms : List M) (s : ByteArray) (x : List Int) (k n : Int) (xa : Option Addr) (xc : Nat) (w : World) (hwf : Bnd.wfL ds) (hsz9 : s.size ≤ 9223372036854775807)
    (hB : ds.length + Bnd.wtX ds ≤ 4000000) (hxB : s.size + x.length ≤ 3000000) (hi : Bnd.IsL ds ms) (hin : (M.sl a cap 4 49 ms).In w) (hx : (M.sl xa xc 1 3 (intM x)).In w) :
    Calls Try.prog 55 #[.slice a ms.length cap, .agg #[.string s, .slice xa x.length xc, .int .i64 k, .int .i64 n]] w (RetAdd 49 (addTo ds s x k n) (addOk ds s x k n) w) := by
  have hl := hi.length
  have hcap := hin.len
  have hxl := Ints.len hx
  have HI := Lib.hid hi; clear hi; have HIN := Lib.hid hin; clear hin; have HX := Lib.hid hx; clear hx; have HWF := Lib.hid hwf; clear hwf; have HL := Lib.hid hl; clear hl
  go_enter Try.func55, Try.ntmps55
  go_wp2_with fail
  refine (sAreBindings_calls ds a cap ms _ HWF.out HI.out (HIN.out.below (by (repeat (first | with_reducible assumption | with_reducible exact Below.refl _ _ | with_reducible refine Below.drew ?_ | with_reducible refine belowDrewN ?_ _ | ((with_reducible refine Below.setCell ?_ ?_ _); rotate_left; focus (first | omega | (simp; done) | (simp; omega))) | ((with_reducible refine Below.alloc ?_ ?_ _); rotate_left; focus (first | omega | (simp; done) | (simp; omega)))))))).mono ?_
  rintro e w1 ⟨rfl, hb1⟩
  have hq1 : BBox w.heap.size s (.slice xa x.length xc) k n w1 := (BBox.new s (.slice xa x.length xc) k n w).below hb1 (by simp)
  obtain ⟨hc1, hf1⟩ := bcell hb1; have hz1 := hb1.size; (try simp only [World.size_alloc, World.size_setCell, World.size_drew, sizeDrewN] at hz1 hc1 hf1)
  obtain ⟨q0, q1, q2, q3, f0, f1, f2, f3⟩ := hq1
  have p0 : w.heap.size < w1.heap.size := by omega
  clear hc1 hf1
  cases hA : areB ds with
  | false =>
    have hno : addOk ds s x k n = false := by simp [addOk, hA]
    have HA := Lib.hid hA; clear hA; have HNO := Lib.hid hno; clear hno
    go_wp2_with fail
    refine (l3Copy_calls ds a cap ms _ hB HI.out (HIN.out.below (by (repeat (first | with_reducible assumption | with_reducible exact Below.refl _ _ | with_reducible refine Below.drew ?_ | with_reducible refine belowDrewN ?_ _ | ((with_reducible refine Below.setCell ?_ ?_ _); rotate_left; focus (first | omega | (simp; done) | (simp; omega))) | ((with_reducible refine Below.alloc ?_ ?_ _); rotate_left; focus (first | omega | (simp; done) | (simp; omega))) | ((with_reducible refine Below.trans ?_ (Below.mono hb1 ?_)); rotate_left; focus (first | omega | (simp; done) | (simp; omega)))))))).mono ?_
    rintro e w2 ⟨a2, cap2, ms2, rfl, hi2, hm2, hb2⟩
    have HI2 := Lib.hid hi2; clear hi2; have HM2 := Lib.hid hm2; clear hm2
    go_wp2_with fail
    go_ret2
    exact ⟨a2, cap2, ms2, by rw [HNO.out]; rfl, by rw [addTo_no HNO.out]; exact HI2.out, by (exact M.Mine.mono (M.Mine.keep HM2.out (fun b hb1 hb2 => by (try simp at hb1); simp (disch := (first | omega | (simp; omega))) only [heapSet, heapNew, heapDrew, heapDrewN])) (by first | omega | (simp; done) | (simp; omega))), by (repeat (first | with_reducible assumption | with_reducible exact Below.refl _ _ | with_reducible refine Below.drew ?_ | with_reducible refine belowDrewN ?_ _ | ((with_reducible refine Below.setCell ?_ ?_ _); rotate_left; focus (first | omega | (simp; done) | (simp; omega))) | ((with_reducible refine Below.alloc ?_ ?_ _); rotate_left; focus (first | omega | (simp; done) | (simp; omega))) | ((with_reducible refine Below.trans ?_ (Below.mono hb1 ?_)); rotate_left; focus (first | omega | (simp; done) | (simp; omega))) | ((with_reducible refine Below.trans ?_ (Below.mono hb2 ?_)); rotate_left; focus (first | omega | (simp; done) | (simp; omega)))))⟩
  | true =>
    go_wp2_with fail
    refine (sIsBinding_calls s x k n xa xc _ hsz9 (HX.out.below (by (repeat (first | with_reducible assumption | with_reducible exact Below.refl _ _ | with_reducible refine Below.drew ?_ | with_reducible refine belowDrewN ?_ _ | ((with_reducible refine Below.setCell ?_ ?_ _); rotate_left; focus (first | omega | (simp; done) | (simp; omega))) | ((with_reducible refine Below.alloc ?_ ?_ _); rotate_left; focus (first | omega | (simp; done) | (simp; omega))) | ((with_reducible refine Below.trans ?_ (Below.mono hb1 ?_)); rotate_left; focus (first | omega | (simp; done) | (simp; omega)))))))).mono ?_
    rintro e w2 ⟨rfl, hb2⟩
    have q2' : BBox w.heap.size s (.slice xa x.length xc) k n w2 := BBox.below ⟨q0, q1, q2, q3, f0, f1, f2, f3⟩ hb2 p0
    clear q0 q1 q2 q3 f0 f1 f2 f3
    have hs0 := q2'
    obtain ⟨q0, q1, q2, q3, f0, f1, f2, f3⟩ := q2'
    obtain ⟨hc2, hf2⟩ := bcell hb2; have hz2 := hb2.size; (try simp only [World.size_alloc, World.size_setCell, World.size_drew, sizeDrewN] at hz2 hc2 hf2)
    have p1 : w.heap.size < w2.heap.size := by omega
    clear hc2 hf2
    cases hK : bndOk s x k n with
    | false =>
      have hno : addOk ds s x k n = false := by simp [addOk, hK]
      have HK := Lib.hid hK; clear hK; have HA := Lib.hid hA; clear hA; have HNO := Lib.hid hno; clear hno
      go_wp2_with fail
      refine (l3Copy_calls ds a cap ms _ hB HI.out (HIN.out.below (by (repeat (first | with_reducible assumption | with_reducible exact Below.refl _ _ | with_reducible refine Below.drew ?_ | with_reducible refine belowDrewN ?_ _ | ((with_reducible refine Below.setCell ?_ ?_ _); rotate_left; focus (first | omega | (simp; done) | (simp; omega))) | ((with_reducible refine Below.alloc ?_ ?_ _); rotate_left; focus (first | omega | (simp; done) | (simp; omega))) | ((with_reducible refine Below.trans ?_ (Below.mono hb1 ?_)); rotate_left; focus (first | omega | (simp; done) | (simp; omega))) | ((with_reducible refine Below.trans ?_ (Below.mono hb2 ?_)); rotate_left; focus (first | omega | (simp; done) | (simp; omega)))))))).mono ?_
      rintro e w3 ⟨a2, cap2, ms2, rfl, hi2, hm2, hb3⟩
      have HI2 := Lib.hid hi2; clear hi2; have HM2 := Lib.hid hm2; clear hm2
      go_wp2_with fail
      go_ret2
      exact ⟨a2, cap2, ms2, by rw [HNO.out]; rfl, by rw [addTo_no HNO.out]; exact HI2.out, by (exact M.Mine.mono (M.Mine.keep HM2.out (fun b hb1 hb2 => by (try simp at hb1); simp (disch := (first | omega | (simp; omega))) only [heapSet, heapNew, heapDrew, heapDrewN])) (by first | omega | (simp; done) | (simp; omega))), by (repeat (first | with_reducible assumption | with_reducible exact Below.refl _ _ | with_reducible refine Below.drew ?_ | with_reducible refine belowDrewN ?_ _ | ((with_reducible refine Below.setCell ?_ ?_ _); rotate_left; focus (first | omega | (simp; done) | (simp; omega))) | ((with_reducible refine Below.alloc ?_ ?_ _); rotate_left; focus (first | omega | (simp; done) | (simp; omega))) | ((with_reducible refine Below.trans ?_ (Below.mono hb1 ?_)); rotate_left; focus (first | omega | (simp; done) | (simp; omega))) | ((with_reducible refine Below.trans ?_ (Below.mono hb2 ?_)); rotate_left; focus (first | omega | (simp; done) | (simp; omega))) | ((with_reducible refine Below.trans ?_ (Below.mono hb3 ?_)); rotate_left; focus (first | omega | (simp; done) | (simp; omega)))))⟩
    | true =>
      have hr := add_room (n := n) hA hK
      have hbz : Below w.heap.size w w2 := by (repeat (first | with_reducible assumption | with_reducible exact Below.refl _ _ | with_reducible refine Below.drew ?_ | with_reducible refine belowDrewN ?_ _ | ((with_reducible refine Below.setCell ?_ ?_ _); rotate_left; focus (first | omega | (simp; done) | (simp; omega))) | ((with_reducible refine Below.alloc ?_ ?_ _); rotate_left; focus (first | omega | (simp; done) | (simp; omega))) | ((with_reducible refine Below.trans ?_ (Below.mono hb1 ?_)); rotate_left; focus (first | omega | (simp; done) | (simp; omega))) | ((with_reducible refine Below.trans ?_ (Below.mono hb2 ?_)); rotate_left; focus (first | omega | (simp; done) | (simp; omega)))))
      have HK := Lib.hid hK; clear hK; have HA := Lib.hid hA; clear hA; have HR := Lib.hid hr; clear hr
      go_wp2_with fail
      go_region_held3 (fun w' => w'.cell? ⟨w.heap.size, 0, none⟩ = some (.string s) ∧ w'.cell? ⟨w.heap.size, 1, none⟩ = some (.slice xa x.length xc) ∧ w'.cell? ⟨w.heap.size, 2, none⟩ = some (.int .i64 k) ∧ w'.cell? ⟨w.heap.size, 3, none⟩ = some (.int .i64 n))
        (first | (with_reducible exact ⟨hs6.c0, hs6.c1, hs6.c2, hs6.c3⟩) | (with_reducible exact ⟨cellNew hs6.c0, cellNew hs6.c1, cellNew hs6.c2, cellNew hs6.c3⟩) | (simp only [World.cell?_drew]; first | (with_reducible exact ⟨hs6.c0, hs6.c1, hs6.c2, hs6.c3⟩) | (with_reducible exact ⟨cellNew hs6.c0, cellNew hs6.c1, cellNew hs6.c2, cellNew hs6.c3⟩)) | (with_reducible exact ⟨hs5.c0, hs5.c1, hs5.c2, hs5.c3⟩) | (with_reducible exact ⟨cellNew hs5.c0, cellNew hs5.c1, cellNew hs5.c2, cellNew hs5.c3⟩) | (simp only [World.cell?_drew]; first | (with_reducible exact ⟨hs5.c0, hs5.c1, hs5.c2, hs5.c3⟩) | (with_reducible exact ⟨cellNew hs5.c0, cellNew hs5.c1, cellNew hs5.c2, cellNew hs5.c3⟩)) | (with_reducible exact ⟨hs0.c0, hs0.c1, hs0.c2, hs0.c3⟩) | (with_reducible exact ⟨cellNew hs0.c0, cellNew hs0.c1, cellNew hs0.c2, cellNew hs0.c3⟩) | (simp only [World.cell?_drew]; first | (with_reducible exact ⟨hs0.c0, hs0.c1, hs0.c2, hs0.c3⟩) | (with_reducible exact ⟨cellNew hs0.c0, cellNew hs0.c1, cellNew hs0.c2, cellNew hs0.c3⟩)))
        (first
          | (go_at_call 132; refine (l3Copy_calls ds a cap ms _ hB HI.out (HIN.out.below (by (repeat (first | with_reducible assumption | with_reducible exact Below.refl _ _ | with_reducible refine Below.drew ?_ | with_reducible refine belowDrewN ?_ _ | ((with_reducible refine Below.setCell ?_ ?_ _); rotate_left; focus (first | omega | (simp; done) | (simp; omega))) | ((with_reducible refine Below.alloc ?_ ?_ _); rotate_left; focus (first | omega | (simp; done) | (simp; omega))) | ((with_reducible refine Below.trans ?_ (Below.mono hbz ?_)); rotate_left; focus (first | omega | (simp; done) | (simp; omega)))))))).mono ?_; rintro e w5 ⟨a5, cap5, ms5, rfl, hi5, hm5, hb5⟩; have hs5 : BBox w.heap.size s (.slice xa x.length xc) k n w5 := hs0.of (hb5.block _ (by simp; omega)))
          | (go_at_call 133; refine (l3Add_calls ds a5 cap5 ms5 s x k n xa xc w2.heap.size _ hB hxB hi5 (hm5.mono (by simp)) (by have := hb5.size; simp at this; omega) (HX.out.below (by (repeat (first | with_reducible assumption | with_reducible exact Below.refl _ _ | with_reducible refine Below.drew ?_ | with_reducible refine belowDrewN ?_ _ | ((with_reducible refine Below.setCell ?_ ?_ _); rotate_left; focus (first | omega | (simp; done) | (simp; omega))) | ((with_reducible refine Below.alloc ?_ ?_ _); rotate_left; focus (first | omega | (simp; done) | (simp; omega))) | ((with_reducible refine Below.trans ?_ (Below.mono hbz ?_)); rotate_left; focus (first | omega | (simp; done) | (simp; omega))) | ((with_reducible refine Below.trans ?_ (Below.mono hb5 ?_)); rotate_left; focus (first | omega | (simp; done) | (simp; omega)))))))).mono ?_; rintro e w6 ⟨a6, cap6, ms6, rfl, hi6, hm6, hb6⟩; have hs6 : BBox w.heap.size s (.slice xa x.length xc) k n w6 := hs5.of (hb6.block _ (by have := hb5.size; simp at this ⊢; omega))))
      all_goals
        have hz5 := hb5.size
        have hz6 := hb6.size
        (try simp only [World.size_alloc, World.size_drew] at hz5 hz6)
        have hbf : Below w.heap.size w w6 := by (repeat (first | with_reducible assumption | with_reducible exact Below.refl _ _ | with_reducible refine Below.drew ?_ | with_reducible refine belowDrewN ?_ _ | ((with_reducible refine Below.setCell ?_ ?_ _); rotate_left; focus (first | omega | (simp; done) | (simp; omega))) | ((with_reducible refine Below.alloc ?_ ?_ _); rotate_left; focus (first | omega | (simp; done) | (simp; omega))) | ((with_reducible refine Below.trans ?_ (Below.mono hbz ?_)); rotate_left; focus (first | omega | (simp; done) | (simp; omega))) | ((with_reducible refine Below.trans ?_ (Below.mono hb5 ?_)); rotate_left; focus (first | omega | (simp; done) | (simp; omega))) | ((with_reducible refine Below.trans ?_ (Below.mono hb6 ?_)); rotate_left; focus (first | omega | (simp; done) | (simp; omega)))))
        have HI5 := Lib.hid hi5; clear hi5; have HM5 := Lib.hid hm5; clear hm5; have HM6 := Lib.hid hm6; clear hm6; have HI6 := Lib.hid hi6; clear hi6
        go_wp2_with fail
        go_ret2
        exact ⟨a6, cap6, ms6, by rw [HR.out.1]; rfl, by rw [HR.out.2]; exact HI6.out, by exact HM6.out.mono (by omega), hbf⟩
end Go.Proofs.Ytkofpfcbjfkdpaa
