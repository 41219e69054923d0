/-
  Candidates and resolution, in plain terms. No condition.
-/
import Derived.Test.YtkofpfcbjfkdpaaH1
import Derived.Test.YtkofpfcbjfkdpaaS1
import Derived.Test.YtkofpfcbjfkdpaaY10
set_option linter.unusedVariables false
set_option linter.unusedSimpArgs false
namespace Go.Proofs.Ytkofpfcbjfkdpaa
open Go.RowKit

/-- a binding to which an identifier with text s and scopes x may refer -/
noncomputable def candB (s : ByteArray) (x : List Int) (b : Bnd) : Bool := eqTx b.s s && subB b.x x
theorem eqTx_iff (s t : ByteArray) : eqTx s t = true ↔ s = t := by simp [eqTx]
theorem candB_iff {s : ByteArray} {x : List Int} {b : Bnd} : candB s x b = true ↔ b.s = s ∧ subB b.x x = true := by simp [candB, eqTx_iff]
theorem candB_no1 {s : ByteArray} {x : List Int} {b : Bnd} (h : ¬ b.s = s) : candB s x b = false := by simp [candB, eqTx_no h]
theorem candB_no2 {s : ByteArray} {x : List Int} {b : Bnd} (h : subB b.x x = false) : candB s x b = false := by simp [candB, h]
theorem candB_yes {s : ByteArray} {x : List Int} {b : Bnd} (h1 : b.s = s) (h2 : subB b.x x = true) : candB s x b = true := candB_iff.2 ⟨h1, h2⟩
noncomputable def cands (s : ByteArray) (x : List Int) (ds : List Bnd) : List Bnd := ds.filter (candB s x)
theorem cands_nil (s : ByteArray) (x : List Int) : cands s x [] = [] := rfl
theorem cands_yes {s : ByteArray} {x : List Int} {ds : List Bnd} {j : Nat} {b : Bnd} (h : ds[j]? = some b) (hc : candB s x b = true) : cands s x (ds.take (j + 1)) = cands s x (ds.take j) ++ [b] := by
  rw [take_snoc h, cands, cands, List.filter_append]; simp [hc]
theorem cands_no {s : ByteArray} {x : List Int} {ds : List Bnd} {j : Nat} {b : Bnd} (h : ds[j]? = some b) (hc : candB s x b = false) : cands s x (ds.take (j + 1)) = cands s x (ds.take j) := by
  rw [take_snoc h, cands, cands, List.filter_append]; simp [hc]
theorem cands_length (s : ByteArray) (x : List Int) (ds : List Bnd) : (cands s x ds).length ≤ ds.length := List.length_filter_le _ _
theorem cands_mem {s : ByteArray} {x : List Int} {ds : List Bnd} {b : Bnd} : b ∈ cands s x ds ↔ b ∈ ds ∧ candB s x b = true := by simp [cands]
/-- the greater set of scopes, the earlier one if they are of one size -/
def better (acc : Option Bnd) (b : Bnd) : Option Bnd :=
  match acc with
  | none => some b
  | some c => if c.x.length < b.x.length then some b else some c
def bestOf (l : List Bnd) : Option Bnd := l.foldl better none
theorem bestOf_nil : bestOf [] = none := rfl
theorem bestOf_snoc (l : List Bnd) (b : Bnd) : bestOf (l ++ [b]) = better (bestOf l) b := by simp [bestOf]
theorem better_some (acc : Option Bnd) (b : Bnd) : ∃ c, better acc b = some c := by
  cases acc with
  | none => exact ⟨b, rfl⟩
  | some c => simp only [better]; split <;> exact ⟨_, rfl⟩
theorem foldl_better_some : ∀ (l : List Bnd) (c : Bnd), ∃ d, l.foldl better (some c) = some d
  | [], c => ⟨c, rfl⟩
  | b :: r, c => by
    obtain ⟨d, hd⟩ := better_some (some c) b
    simp only [List.foldl_cons, hd]
    exact foldl_better_some r d
theorem bestOf_none {l : List Bnd} : bestOf l = none ↔ l = [] := by
  cases l with
  | nil => simp [bestOf]
  | cons b r =>
    obtain ⟨d, hd⟩ := foldl_better_some r b
    simp [bestOf, better, hd]
theorem foldl_better_mem : ∀ (l : List Bnd) (acc : Option Bnd) (b : Bnd), l.foldl better acc = some b → acc = some b ∨ b ∈ l
  | [], acc, b, h => .inl h
  | d :: r, acc, b, h => by
    rcases foldl_better_mem r (better acc d) b h with h1 | h1
    · cases acc with
      | none => simp [better] at h1; subst h1; exact .inr (List.mem_cons_self ..)
      | some c =>
        simp only [better] at h1
        split at h1
        · simp at h1; subst h1; exact .inr (List.mem_cons_self ..)
        · exact .inl h1
    · exact .inr (List.mem_cons_of_mem _ h1)
theorem bestOf_mem {l : List Bnd} {b : Bnd} (h : bestOf l = some b) : b ∈ l := by
  rcases foldl_better_mem l none b h with h | h
  · cases h
  · exact h
/-- what resolving tells -/
noncomputable def resB (s : ByteArray) (x : List Int) (ds : List Bnd) : Bnd × Int :=
  match bestOf (cands s x ds) with
  | none => (.mk ⟨#[]⟩ [] 0 0, 0)
  | some b => if (cands s x ds).all (fun c => subB c.x b.x) = true then (b, 1) else (.mk ⟨#[]⟩ [] 0 0, 2)
theorem resB_none {s : ByteArray} {x : List Int} {ds : List Bnd} (h : bestOf (cands s x ds) = none) : resB s x ds = (.mk ⟨#[]⟩ [] 0 0, 0) := by simp [resB, h]
theorem resB_found {s : ByteArray} {x : List Int} {ds : List Bnd} {b : Bnd} (h : bestOf (cands s x ds) = some b) (h2 : ∀ c ∈ cands s x ds, subB c.x b.x = true) : resB s x ds = (b, 1) := by
  simp only [resB, h]; rw [if_pos]; rw [List.all_eq_true]; exact h2
theorem resB_amb {s : ByteArray} {x : List Int} {ds : List Bnd} {b c : Bnd} (h : bestOf (cands s x ds) = some b) (hc : c ∈ cands s x ds) (h2 : subB c.x b.x = false) : resB s x ds = (.mk ⟨#[]⟩ [] 0 0, 2) := by
  simp only [resB, h]; rw [if_neg]; intro ha; rw [List.all_eq_true] at ha; have := ha c hc; rw [h2] at this; cases this
/-- what resolving tells, if the bindings are valid and the identifier is one -/
noncomputable def resG (ok : Bool) (s : ByteArray) (x : List Int) (ds : List Bnd) : Bnd × Int := if ok = true then resB s x ds else (.mk ⟨#[]⟩ [] 0 0, 0)
noncomputable def candG (ok : Bool) (s : ByteArray) (x : List Int) (ds : List Bnd) : List Bnd := if ok = true then cands s x ds else []
/-- do two identifiers mean the same -/
noncomputable def meanB (s : ByteArray) (x : List Int) (s' : ByteArray) (x' : List Int) (ds : List Bnd) : Bool :=
  if (resB s x ds).2 = 1 ∧ (resB s' x' ds).2 = 1 then decide ((resB s x ds).1.k = (resB s' x' ds).1.k) && decide ((resB s x ds).1.n = (resB s' x' ds).1.n)
  else decide ((resB s x ds).2 = 0) && (decide ((resB s' x' ds).2 = 0) && eqTx s s')
theorem resB_k (s : ByteArray) (x : List Int) (ds : List Bnd) : (resB s x ds).2 = 0 ∨ (resB s x ds).2 = 1 ∨ (resB s x ds).2 = 2 := by
  unfold resB; split
  · simp
  · split <;> simp
end Go.Proofs.Ytkofpfcbjfkdpaa
