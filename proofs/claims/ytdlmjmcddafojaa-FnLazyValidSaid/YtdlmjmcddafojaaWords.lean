/-
  The first words of the head of the translation.
  Conditions: none.
-/
import Derived.Test.YtdlmjmcddafojaaRows
import Derived.JoinedOf
import Derived.ProofKit
set_option linter.unusedVariables false
set_option linter.unusedSimpArgs false
namespace Go.Proofs.Ytdlmjmcddafojaa
open Go
set_option maxRecDepth 100000
def chars (l : List Nat) : List Char := l.map Char.ofNat
theorem ws_cons {c : Char} {r : List Char} {w : List Char} {ws : List (List Char)} (hc : c ≠ Char.ofNat 32) (h : wordsSigns r = w :: ws) : wordsSigns (c :: r) = (c :: w) :: ws := by
  rw [wordsSigns.eq_3 c r (fun e => hc e), h]
theorem ws_word : ∀ (w r : List Char), w.all (fun c => c != Char.ofNat 32) = true → wordsSigns (w ++ Char.ofNat 32 :: r) = w :: wordsSigns r
  | [], r, _ => rfl
  | c :: w, r, h => by
    simp only [List.all_cons, Bool.and_eq_true] at h
    exact ws_cons (by simpa using h.1) (ws_word w r h.2)
def wd0 : List Char := chars [104, 97, 114, 110, 101, 115, 115]
def wd1 : List Char := chars [57, 57, 52, 57, 99, 102, 53, 97, 48, 53, 49, 55, 57, 55, 101, 101, 56, 99, 100, 97, 55, 52, 52, 97, 55, 48, 52, 56, 97, 52, 97, 48, 50, 54, 99, 52, 54, 48, 55, 54, 52, 52, 102, 55, 52, 53, 97, 51, 54, 99, 50, 54, 52, 53, 57, 101, 50, 52, 50, 55, 53, 48, 51, 49]
def wd2 : List Char := chars [99, 117, 116]
def wdT : List Char := chars [97, 116, 32, 108, 111, 111, 112, 46, 101, 120, 97, 109, 112, 108, 101, 47, 109, 101, 109, 111, 114, 121, 109, 97, 110, 97, 103, 101, 114, 115, 47, 108, 97, 119, 115, 46, 70, 110, 67, 111, 108, 108, 101, 99, 116, 67, 121, 99, 108, 101, 115, 32, 108, 111, 111, 112, 46, 101, 120, 97, 109, 112, 108, 101, 47, 109, 101, 109, 111, 114, 121, 109, 97, 110, 97, 103, 101, 114, 115, 47, 108, 97, 119, 115, 46, 70, 110, 76, 97, 122, 121, 86, 97, 108, 105, 100]
theorem head_io : Try.pinned.checked.prog.initOrder = String.ofList (wd0 ++ Char.ofNat 32 :: (wd1 ++ Char.ofNat 32 :: (wd2 ++ Char.ofNat 32 :: wdT))) := by kernel_rfl
theorem head_ws : ∃ r, wordsSigns Try.pinned.checked.prog.initOrder.toList = wd0 :: wd1 :: wd2 :: r := by
  rw [head_io, String.toList_ofList]
  rw [ws_word wd0 _ (by kernel_rfl)]
  rw [ws_word wd1 _ (by kernel_rfl)]
  rw [ws_word wd2 _ (by kernel_rfl)]
  exact ⟨_, rfl⟩
theorem head_b (r : List (List Char)) : behindMainWord (wd0 :: wd1 :: wd2 :: r) = wd2 :: r := by kernel_rfl
theorem head_gc : (wd2 == "gc".toList) = false := by kernel_rfl
theorem head_spec : (wd2 == "spec".toList) = false := by kernel_rfl
theorem head_carried : (wd2 == "carried".toList) = false := by kernel_rfl
theorem head_cut : (wd2 == "cut".toList) = true := by kernel_rfl
theorem head_strip (r : List (List Char)) : stripLifts liftWords (wd2 :: r) = ([], wd2 :: r) := by kernel_rfl
theorem head_later : Try.pinned.checked.prog.laysLater = false := by kernel_rfl
theorem head_reflect : Try.pinned.checked.prog.bearsReflect = false := by kernel_rfl
theorem head_door : Try.pinned.checked.prog.doorFits [] = true := by kernel_rfl
theorem make_of {P : Program} {c : List Char} {rest : List (List Char)} (h : behindMainWord (wordsSigns P.initOrder.toList) = c :: rest) (h1 : (c == "gc".toList) = false) (h2 : (c == "spec".toList) = false) (h3 : (c == "cut".toList) = true) : P.make = some .cut := by
  unfold Program.make
  rw [h]
  dsimp only
  rw [h1, h2, h3]
  rfl
theorem final_of {P : Program} {c : List Char} {rest : List (List Char)} (h : behindMainWord (wordsSigns P.initOrder.toList) = c :: rest) (h1 : (c == "carried".toList) = false) (h2 : stripLifts liftWords (c :: rest) = ([], c :: rest)) : P.liftsFinal = false := by
  unfold Program.liftsFinal Program.headLifts
  rw [h]
  dsimp only
  rw [h2]
  have e : ((c :: rest).head? == some "carried".toList) = false := h1
  rw [e, Bool.false_and, Bool.false_or]
  have k : ∀ (b : Bool), (if b = true then ([], c :: rest).1 else ([] : List String)).contains "finals" = false := fun b => by cases b <;> rfl
  exact k _
theorem enter_of {P : Program} {c : List Char} {rest : List (List Char)} (h : behindMainWord (wordsSigns P.initOrder.toList) = c :: rest) (h1 : (c == "gc".toList) = false) (h2 : (c == "spec".toList) = false) (h3 : (c == "cut".toList) = true) (h4 : (c == "carried".toList) = false)
    (h5 : stripLifts liftWords (c :: rest) = ([], c :: rest)) (h6 : P.laysLater = false) (h7 : P.bearsReflect = false) (h8 : P.doorFits [] = true) : P.mayEnter = true := by
  unfold Program.mayEnter
  rw [h]
  dsimp only
  rw [h1, h2, h4, h5, h6, h7]
  dsimp only
  rw [h8]
  simp only [List.head?_cons]
  have e : (some c == some "cut".toList) = true := h3
  rw [e]
  rfl
theorem head_lead : ∃ r, behindMainWord (wordsSigns Try.pinned.checked.prog.initOrder.toList) = wd2 :: r := by
  obtain ⟨r, hr⟩ := head_ws
  exact ⟨r, by rw [hr, head_b]⟩
theorem head_make : Try.pinned.checked.prog.make = some .cut := by
  obtain ⟨r, hr⟩ := head_lead
  exact make_of hr head_gc head_spec head_cut
theorem head_final : Try.pinned.checked.prog.liftsFinal = false := by
  obtain ⟨r, hr⟩ := head_lead
  exact final_of hr head_carried (head_strip r)
theorem head_enter : Try.pinned.checked.prog.mayEnter = true := by
  obtain ⟨r, hr⟩ := head_lead
  exact enter_of hr head_gc head_spec head_cut head_carried (head_strip r) head_later head_reflect head_door
end Go.Proofs.Ytdlmjmcddafojaa
