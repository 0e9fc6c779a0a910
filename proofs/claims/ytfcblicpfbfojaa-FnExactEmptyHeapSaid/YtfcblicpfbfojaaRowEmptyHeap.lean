/-
  The law FnExactEmptyHeap returns true whatever the input, and its argument reads as before.
  Conditions: those that each theorem states.
-/
import Derived.Test.YtfcblicpfbfojaaTy
import Derived.Test.YtfcblicpfbfojaaLawEmptyHeap
import Derived.Test.YtfcblicpfbfojaaRows
import Derived.Test.YtfcblicpfbfojaaOpen
import Derived.Test.YtfcblicpfbfojaaWords
namespace Go.Proofs.Ytfcblicpfbfojaa
open Go Go.ChangeShapes Go.WideShapes Go.ChangeAt Go.RowKit Go.Deep Go.Joins

theorem own_knob : ownKnob Try.prog.godebug = none := by kernel_rfl
theorem laid_out : laidOutB Try.prog = true := by kernel_rfl

set_option maxRecDepth 100000 in
theorem FnExactEmptyHeap_lifted (os : Os) (started : os.Started) (H : Type) (enc : TypeId × Value → H) :
    ReturnsInHanded {} Try.checked os 4 .any (Rows.fnExactEmptyHeapSpec.pre6 enc Try.prog Try.f4 Rows.fnExactEmptyHeapRow.domain false) (Rows.fnExactEmptyHeapSpec.post enc Try.prog Try.f4 false true false false) := by
  refine returnsInHanded_of_change (C := Try.checked) own_knob started (by kernel_rfl) Try.func4
    (ChangeSpec.witness6 (enc := enc) (C := Try.checked) false ⟨#[], #[], []⟩ 8 (by kernel_rfl) (by kernel_rfl) (by kernel_rfl) (by kernel_rfl)) ?_
  intro W base args ds gs before hval0 hW _ _
  have hval : ∀ (j : Nat) t v, Try.f4.params[j]? = some t → args[j]? = some v → Value.okWide Try.prog W .any base t v := hval0
  have hW' := hW
  obtain ⟨p, q, hA0, hV, rfl, _, _⟩ := hW
  have hA : DataW.TrodAll enc Try.prog W 0 (fun _ => true) true Try.f4.params.toList args.toList ds p := hA0
  rw [Try.params4] at hA hval
  obtain ⟨rfl, rfl, rfl⟩ := trodAll_none hA
  obtain ⟨rfl, rfl⟩ := trodVars_none hV
  clear hA0 hval0
  simp only [List.append_nil] at hW'
  refine (laws_FnExactEmptyHeap_c  W ).mono fun e W' hr => ?_
  obtain ⟨v, he, hv, hg⟩ := hr
  subst he; subst hv
  exact ⟨_, rfl, _, _, _, [], [], [], hW', trodAll_mk1 (shut_bool Try.underlying4 _), trodAll_mk0, rfl, hg.below.frame _, fun h => by cases h⟩

theorem FnExactEmptyHeap_named : Try.pinned.checked.prog.funcNamed Rows.fnExactEmptyHeapRow.func = some 4 := by kernel_rfl
set_option maxHeartbeats 4000000 in
theorem FnExactEmptyHeap_facts : joinedFacts Try.pinned.checked.prog 4 Try.f4 Rows.fnExactEmptyHeapSpec Rows.fnExactEmptyHeapRow = true := by
  unfold joinedFacts
  rw [head_make, head_final, head_enter]
  simp only [Bool.and_eq_true]
  (repeat' apply And.intro) <;> first | exact True.intro | as_aux_lemma => kernel_rfl
theorem FnExactEmptyHeap_inst : Try.f4.isInstance Try.pinned.checked.prog Rows.fnExactEmptyHeapRow.origin Rows.fnExactEmptyHeapRow.targs := of_decide_eq_true (by kernel_rfl)
theorem FnExactEmptyHeap_wrap : Try.f4.isWrapper Try.pinned.checked.prog Rows.fnExactEmptyHeapRow.wrapper Rows.fnExactEmptyHeapRow.mainSum := by
  unfold Func.isWrapper
  first | (rw [if_pos (by decide +kernel)]; kernel_rfl) | (rw [if_neg (by decide +kernel)]; exact ⟨rfl, rfl⟩)
/-- The statement. -/
theorem FnExactEmptyHeap_holds : Rows.FnExactEmptyHeapSaid :=
  OpenClaim.holds_of_wide 4 Try.f4 rfl rfl rfl rfl rfl rfl rfl ⟨rfl, rfl, rfl, rfl, rfl⟩ rfl rfl rfl rfl rfl FnExactEmptyHeap_named Try.func4 FnExactEmptyHeap_facts FnExactEmptyHeap_inst FnExactEmptyHeap_wrap
    (fun os started H enc _ => FnExactEmptyHeap_lifted os started H enc)

end Go.Proofs.Ytfcblicpfbfojaa
