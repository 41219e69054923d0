/-
  The head of the translation as lists of signs, and the closed facts that read it (by the lists: the kernel takes a long string apart at too great a cost). No condition.
-/
import Derived.Test.YtoflfamfhpijcaaDoorRows
import Derived.ProofKit
set_option maxRecDepth 100000
namespace Go.Proofs.YtoflfamfhpijcaaDoor
def sgHarness : List Char := [104, 97, 114, 110, 101, 115, 115].map Char.ofNat
def sgSum : List Char := [55, 101, 52, 99, 50, 48, 54, 56, 50, 98, 52, 55, 100, 100, 54, 48, 51, 98, 55, 56, 54, 102, 97, 55, 51, 50, 51, 55, 102, 100, 100, 50, 55, 101, 98, 102, 56, 48, 99, 54, 56, 54, 98, 102, 54, 55, 101, 101, 49, 99, 54, 102, 100, 101, 56, 99, 49, 52, 52, 102, 99, 57, 97, 97].map Char.ofNat
def sgCut : List Char := [99, 117, 116].map Char.ofNat
def sgRest : List Char := [97, 116, 32, 108, 111, 111, 112, 46, 101, 120, 97, 109, 112, 108, 101, 47, 103, 48, 51, 50, 50, 48, 47, 108, 97, 119, 115, 46, 70, 110, 83, 111, 117, 114, 99, 101, 84, 101, 120, 116, 32, 108, 111, 111, 112, 46, 101, 120, 97, 109, 112, 108, 101, 47, 103, 48, 51, 50, 50, 48, 47, 108, 97, 119, 115, 46, 70, 110, 69, 120, 97, 99, 116, 80, 97, 114, 115, 101, 68, 97, 116, 97, 32, 108, 111, 111, 112, 46, 101, 120, 97, 109, 112, 108, 101, 47, 103, 48, 51, 50, 50, 48, 47, 108, 97, 119, 115, 46, 70, 110, 69, 120, 97, 99, 116, 70, 111, 114, 109, 97, 116, 78, 117, 109, 98, 101, 114, 32, 108, 111, 111, 112, 46, 101, 120, 97, 109, 112, 108, 101, 47, 103, 48, 51, 50, 50, 48, 47, 108, 97, 119, 115, 46, 70, 110, 69, 120, 97, 99, 116, 70, 111, 114, 109, 97, 116, 66, 105, 110, 100, 105, 110, 103, 32, 108, 111, 111, 112, 46, 101, 120, 97, 109, 112, 108, 101, 47, 103, 48, 51, 50, 50, 48, 47, 108, 97, 119, 115, 46, 70, 110, 69, 120, 97, 99, 116, 70, 111, 114, 109, 97, 116, 68, 97, 116, 117, 109, 32, 108, 111, 111, 112, 46, 101, 120, 97, 109, 112, 108, 101, 47, 103, 48, 51, 50, 50, 48, 47, 108, 97, 119, 115, 46, 70, 110, 69, 120, 97, 99, 116, 70, 111, 114, 109, 97, 116, 68, 97, 116, 97, 32, 108, 111, 111, 112, 46, 101, 120, 97, 109, 112, 108, 101, 47, 103, 48, 51, 50, 50, 48, 47, 108, 97, 119, 115, 46, 70, 110, 69, 120, 97, 99, 116, 80, 97, 114, 115, 101, 78, 117, 109, 98, 101, 114, 32, 108, 111, 111, 112, 46, 101, 120, 97, 109, 112, 108, 101, 47, 103, 48, 51, 50, 50, 48, 47, 108, 97, 119, 115, 46, 70, 110, 78, 117, 109, 98, 101, 114, 115, 32, 108, 111, 111, 112, 46, 101, 120, 97, 109, 112, 108, 101, 47, 103, 48, 51, 50, 50, 48, 47, 108, 97, 119, 115, 46, 70, 110, 69, 120, 97, 99, 116, 70, 111, 114, 109, 97, 116, 83, 121, 110, 116, 97, 120].map Char.ofNat
def sgBlank : Char := Char.ofNat 32
def headSigns : List Char := sgHarness ++ sgBlank :: (sgSum ++ sgBlank :: (sgCut ++ sgBlank :: sgRest))
theorem head_eq : Tryd.prog.initOrder = String.ofList headSigns := by kernel_rfl
theorem head_list : Tryd.prog.initOrder.toList = headSigns := by rw [head_eq]; exact String.toList_ofList
theorem words_cons (w r : List Char) (h : ∀ c ∈ w, c ≠ sgBlank) : wordsSigns (w ++ sgBlank :: r) = w :: wordsSigns r := by
  induction w with
  | nil => rfl
  | cons c w ih =>
    have h0 := h c (List.mem_cons_self ..)
    have h1 := ih fun d hd => h d (List.mem_cons_of_mem _ hd)
    rw [List.cons_append, wordsSigns.eq_3 _ _ (by simpa [sgBlank] using h0), h1]
theorem behind_of (a b c : List Char) (tl : List (List Char)) (h : (a == "harness".toList) = true) (h2 : isSumSigns b = true) : behindMainWord (a :: b :: c :: tl) = c :: tl := by
  show (if ((a == "harness".toList || a == "ownmain".toList) && isSumSigns b) = true then c :: tl else a :: b :: c :: tl) = c :: tl
  rw [h, h2]
  rfl
theorem head_words : ∃ tl, behindMainWord (wordsSigns Tryd.prog.initOrder.toList) = sgCut :: tl := by
  rw [head_list, headSigns, words_cons _ _ (by decide +kernel), words_cons _ _ (by decide +kernel), words_cons _ _ (by decide +kernel)]
  exact ⟨_, behind_of _ _ _ _ (by decide +kernel) (by decide +kernel)⟩
theorem and_mk {a b : Bool} (ha : a = true) (hb : b = true) : (a && b) = true := by rw [ha, hb]; rfl
theorem sgCut_eq : sgCut = "cut".toList := by decide +kernel
theorem strip_cut (tl : List (List Char)) : stripLifts liftWords (sgCut :: tl) = ([], sgCut :: tl) := by kernel_rfl
theorem headLifts_of {P : Program} {tl : List (List Char)} (h : behindMainWord (wordsSigns P.initOrder.toList) = sgCut :: tl) : P.headLifts = [] := by
  unfold Program.headLifts
  rw [h, strip_cut]
  simp
theorem lifts_of {P : Program} {tl : List (List Char)} (h : behindMainWord (wordsSigns P.initOrder.toList) = sgCut :: tl) : P.liftsFinal = false := by
  unfold Program.liftsFinal
  rw [headLifts_of h, h, sgCut_eq]
  simp
theorem make_of {P : Program} {tl : List (List Char)} (h : behindMainWord (wordsSigns P.initOrder.toList) = sgCut :: tl) : P.make = some .cut := by
  unfold Program.make
  rw [h, sgCut_eq]
  simp
theorem mayEnter_of {P : Program} {tl : List (List Char)} (h : behindMainWord (wordsSigns P.initOrder.toList) = sgCut :: tl) (h1 : P.laysLater = false) (h2 : P.bearsReflect = false) (h3 : P.doorFits [] = true) : P.mayEnter = true := by
  unfold Program.mayEnter
  rw [h]
  simp only [strip_cut, h1, h2, h3]
  rw [sgCut_eq]
  simp
theorem lays_ : Tryd.prog.laysLater = false := by kernel_rfl
theorem bears_ : Tryd.prog.bearsReflect = false := by kernel_rfl
theorem door_ : Tryd.prog.doorFits [] = true := by kernel_rfl
theorem mayEnter_ : Tryd.prog.mayEnter = true := by obtain ⟨tl, h⟩ := head_words; exact mayEnter_of h lays_ bears_ door_
theorem lifts_ : Tryd.prog.liftsFinal = false := by obtain ⟨tl, h⟩ := head_words; exact lifts_of h
theorem make_ : Tryd.prog.make = some .cut := by obtain ⟨tl, h⟩ := head_words; exact make_of h
end Go.Proofs.YtoflfamfhpijcaaDoor
