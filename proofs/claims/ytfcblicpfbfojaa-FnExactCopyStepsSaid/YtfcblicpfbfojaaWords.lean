/-
  The first words of the head of the translation.
  Conditions: none.
-/
import Derived.Test.YtfcblicpfbfojaaRows
import Derived.JoinedOf
import Derived.ProofKit
namespace Go.Proofs.Ytfcblicpfbfojaa
open Go
set_option maxRecDepth 100000
def chars (l : List Nat) : List Char := l.map Char.ofNat
theorem ws_cons {c : Char} {r : List Char} {w : List Char} {ws : List (List Char)} (hc : c ≠ Char.ofNat 32) (h : wordsSigns r = w :: ws) : wordsSigns (c :: r) = (c :: w) :: ws := by
  rw [wordsSigns.eq_3 c r (fun e => hc e), h]
theorem ws_word : ∀ (w r : List Char), w.all (fun c => c != Char.ofNat 32) = true → wordsSigns (w ++ Char.ofNat 32 :: r) = w :: wordsSigns r
  | [], r, _ => rfl
  | c :: w, r, h => by
    simp only [List.all_cons, Bool.and_eq_true] at h
    exact ws_cons (by simpa using h.1) (ws_word w r h.2)
def wd0 : List Char := chars [104, 97, 114, 110, 101, 115, 115]
def wd1 : List Char := chars [101, 97, 102, 98, 102, 100, 98, 50, 101, 56, 97, 100, 97, 102, 102, 51, 56, 56, 99, 52, 52, 101, 101, 48, 102, 100, 99, 55, 53, 98, 102, 102, 48, 50, 49, 55, 54, 57, 52, 97, 55, 49, 57, 56, 100, 51, 55, 55, 54, 100, 102, 53, 49, 57, 55, 99, 102, 48, 48, 98, 52, 97, 56, 98]
def wd2 : List Char := chars [99, 117, 116]
def wdT : List Char := chars [97, 116, 32, 108, 111, 111, 112, 46, 101, 120, 97, 109, 112, 108, 101, 47, 109, 101, 109, 111, 114, 121, 109, 97, 110, 97, 103, 101, 114, 115, 47, 108, 97, 119, 115, 46, 70, 110, 69, 120, 97, 99, 116, 67, 111, 109, 109, 97, 110, 100, 86, 97, 108, 105, 100, 32, 108, 111, 111, 112, 46, 101, 120, 97, 109, 112, 108, 101, 47, 109, 101, 109, 111, 114, 121, 109, 97, 110, 97, 103, 101, 114, 115, 47, 108, 97, 119, 115, 46, 70, 110, 69, 120, 97, 99, 116, 69, 109, 112, 116, 121, 72, 101, 97, 112, 32, 108, 111, 111, 112, 46, 101, 120, 97, 109, 112, 108, 101, 47, 109, 101, 109, 111, 114, 121, 109, 97, 110, 97, 103, 101, 114, 115, 47, 108, 97, 119, 115, 46, 70, 110, 69, 120, 97, 99, 116, 67, 111, 109, 109, 97, 110, 100, 115, 86, 97, 108, 105, 100, 32, 108, 111, 111, 112, 46, 101, 120, 97, 109, 112, 108, 101, 47, 109, 101, 109, 111, 114, 121, 109, 97, 110, 97, 103, 101, 114, 115, 47, 108, 97, 119, 115, 46, 70, 110, 67, 111, 109, 109, 97, 110, 100, 86, 97, 108, 105, 100, 32, 108, 111, 111, 112, 46, 101, 120, 97, 109, 112, 108, 101, 47, 109, 101, 109, 111, 114, 121, 109, 97, 110, 97, 103, 101, 114, 115, 47, 108, 97, 119, 115, 46, 70, 110, 69, 109, 112, 116, 121, 72, 101, 97, 112, 32, 108, 111, 111, 112, 46, 101, 120, 97, 109, 112, 108, 101, 47, 109, 101, 109, 111, 114, 121, 109, 97, 110, 97, 103, 101, 114, 115, 47, 108, 97, 119, 115, 46, 70, 110, 69, 120, 97, 99, 116, 72, 101, 97, 112, 86, 97, 108, 105, 100, 32, 108, 111, 111, 112, 46, 101, 120, 97, 109, 112, 108, 101, 47, 109, 101, 109, 111, 114, 121, 109, 97, 110, 97, 103, 101, 114, 115, 47, 108, 97, 119, 115, 46, 70, 110, 67, 111, 109, 109, 97, 110, 100, 115, 86, 97, 108, 105, 100, 32, 108, 111, 111, 112, 46, 101, 120, 97, 109, 112, 108, 101, 47, 109, 101, 109, 111, 114, 121, 109, 97, 110, 97, 103, 101, 114, 115, 47, 108, 97, 119, 115, 46, 70, 110, 86, 105, 101, 119, 79, 102, 32, 108, 111, 111, 112, 46, 101, 120, 97, 109, 112, 108, 101, 47, 109, 101, 109, 111, 114, 121, 109, 97, 110, 97, 103, 101, 114, 115, 47, 108, 97, 119, 115, 46, 70, 110, 69, 120, 97, 99, 116, 70, 114, 101, 101, 80, 108, 97, 99, 101, 32, 108, 111, 111, 112, 46, 101, 120, 97, 109, 112, 108, 101, 47, 109, 101, 109, 111, 114, 121, 109, 97, 110, 97, 103, 101, 114, 115, 47, 108, 97, 119, 115, 46, 70, 110, 69, 120, 97, 99, 116, 67, 111, 112, 121, 83, 116, 101, 112, 115, 32, 108, 111, 111, 112, 46, 101, 120, 97, 109, 112, 108, 101, 47, 109, 101, 109, 111, 114, 121, 109, 97, 110, 97, 103, 101, 114, 115, 47, 108, 97, 119, 115, 46, 70, 110, 69, 120, 97, 99, 116, 77, 97, 114, 107, 68, 101, 112, 116, 104, 32, 108, 111, 111, 112, 46, 101, 120, 97, 109, 112, 108, 101, 47, 109, 101, 109, 111, 114, 121, 109, 97, 110, 97, 103, 101, 114, 115, 47, 108, 97, 119, 115, 46, 70, 110, 69, 120, 97, 99, 116, 82, 101, 102, 67, 111, 117, 110, 116, 115]
theorem head_io : Try.pinned.checked.prog.initOrder = String.ofList (wd0 ++ Char.ofNat 32 :: (wd1 ++ Char.ofNat 32 :: (wd2 ++ Char.ofNat 32 :: wdT))) := by kernel_rfl
theorem head_ws : ∃ r, wordsSigns Try.pinned.checked.prog.initOrder.toList = wd0 :: wd1 :: wd2 :: r := by
  rw [head_io, String.toList_ofList]
  rw [ws_word wd0 _ (by kernel_rfl)]
  rw [ws_word wd1 _ (by kernel_rfl)]
  rw [ws_word wd2 _ (by kernel_rfl)]
  exact ⟨_, rfl⟩
theorem head_b (r : List (List Char)) : behindMainWord (wd0 :: wd1 :: wd2 :: r) = wd2 :: r := by kernel_rfl
theorem head_gc : (wd2 == "gc".toList) = false := by kernel_rfl
theorem head_spec : (wd2 == "spec".toList) = false := by kernel_rfl
theorem head_carried : (wd2 == "carried".toList) = false := by kernel_rfl
theorem head_cut : (wd2 == "cut".toList) = true := by kernel_rfl
theorem head_strip (r : List (List Char)) : stripLifts liftWords (wd2 :: r) = ([], wd2 :: r) := by kernel_rfl
theorem head_later : Try.pinned.checked.prog.laysLater = false := by kernel_rfl
theorem head_reflect : Try.pinned.checked.prog.bearsReflect = false := by kernel_rfl
theorem head_door : Try.pinned.checked.prog.doorFits [] = true := by kernel_rfl
theorem make_of {P : Program} {c : List Char} {rest : List (List Char)} (h : behindMainWord (wordsSigns P.initOrder.toList) = c :: rest) (h1 : (c == "gc".toList) = false) (h2 : (c == "spec".toList) = false) (h3 : (c == "cut".toList) = true) : P.make = some .cut := by
  unfold Program.make
  rw [h]
  dsimp only
  rw [h1, h2, h3]
  rfl
theorem final_of {P : Program} {c : List Char} {rest : List (List Char)} (h : behindMainWord (wordsSigns P.initOrder.toList) = c :: rest) (h1 : (c == "carried".toList) = false) (h2 : stripLifts liftWords (c :: rest) = ([], c :: rest)) : P.liftsFinal = false := by
  unfold Program.liftsFinal Program.headLifts
  rw [h]
  dsimp only
  rw [h2]
  have e : ((c :: rest).head? == some "carried".toList) = false := h1
  rw [e, Bool.false_and, Bool.false_or]
  have k : ∀ (b : Bool), (if b = true then ([], c :: rest).1 else ([] : List String)).contains "finals" = false := fun b => by cases b <;> rfl
  exact k _
theorem enter_of {P : Program} {c : List Char} {rest : List (List Char)} (h : behindMainWord (wordsSigns P.initOrder.toList) = c :: rest) (h1 : (c == "gc".toList) = false) (h2 : (c == "spec".toList) = false) (h3 : (c == "cut".toList) = true) (h4 : (c == "carried".toList) = false)
    (h5 : stripLifts liftWords (c :: rest) = ([], c :: rest)) (h6 : P.laysLater = false) (h7 : P.bearsReflect = false) (h8 : P.doorFits [] = true) : P.mayEnter = true := by
  unfold Program.mayEnter
  rw [h]
  dsimp only
  rw [h1, h2, h4, h5, h6, h7]
  dsimp only
  rw [h8]
  simp only [List.head?_cons]
  have e : (some c == some "cut".toList) = true := h3
  rw [e]
  rfl
theorem head_lead : ∃ r, behindMainWord (wordsSigns Try.pinned.checked.prog.initOrder.toList) = wd2 :: r := by
  obtain ⟨r, hr⟩ := head_ws
  exact ⟨r, by rw [hr, head_b]⟩
theorem head_make : Try.pinned.checked.prog.make = some .cut := by
  obtain ⟨r, hr⟩ := head_lead
  exact make_of hr head_gc head_spec head_cut
theorem head_final : Try.pinned.checked.prog.liftsFinal = false := by
  obtain ⟨r, hr⟩ := head_lead
  exact final_of hr head_carried (head_strip r)
theorem head_enter : Try.pinned.checked.prog.mayEnter = true := by
  obtain ⟨r, hr⟩ := head_lead
  exact enter_of hr head_gc head_spec head_cut head_carried (head_strip r) head_later head_reflect head_door
end Go.Proofs.Ytfcblicpfbfojaa
