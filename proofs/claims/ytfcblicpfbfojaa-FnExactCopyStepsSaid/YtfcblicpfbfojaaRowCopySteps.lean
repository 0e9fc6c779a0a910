/-
  The law FnExactCopySteps returns true whatever the input, and its argument reads as before.
  Conditions: those that each theorem states.
-/
import Derived.Test.YtfcblicpfbfojaaTy
import Derived.Test.YtfcblicpfbfojaaLawCopySteps
import Derived.Test.YtfcblicpfbfojaaRows
import Derived.Test.YtfcblicpfbfojaaWords
import Derived.Test.YtfcblicpfbfojaaOpen
namespace Go.Proofs.Ytfcblicpfbfojaa
open Go Go.ChangeShapes Go.WideShapes Go.ChangeAt Go.RowKit Go.Deep Go.Joins

theorem own_knob : ownKnob Try.prog.godebug = none := by kernel_rfl
theorem laid_out : laidOutB Try.prog = true := by kernel_rfl

set_option maxRecDepth 100000 in
theorem FnExactCopySteps_lifted (os : Os) (started : os.Started) (H : Type) (enc : TypeId × Value → H) :
    ReturnsInHanded {} Try.checked os 12 .any (Rows.fnExactCopyStepsSpec.pre6 enc Try.prog Try.f12 Rows.fnExactCopyStepsRow.domain false) (Rows.fnExactCopyStepsSpec.post enc Try.prog Try.f12 false true false false) := by
  refine returnsInHanded_of_change (C := Try.checked) own_knob started (by kernel_rfl) Try.func12
    (ChangeSpec.witness6 (enc := enc) (C := Try.checked) false ⟨#[], #[.agg #[.slice none 0 0, .slice none 0 0]], []⟩ 8 (by kernel_rfl) (by kernel_rfl) (by kernel_rfl) (by kernel_rfl)) ?_
  intro W base args ds gs before hval0 hW _ _
  have hval : ∀ (j : Nat) t v, Try.f12.params[j]? = some t → args[j]? = some v → Value.okWide Try.prog W .any base t v := hval0
  have hW' := hW
  obtain ⟨p, q, hA0, hV, rfl, _, _⟩ := hW
  have hA : DataW.TrodAll enc Try.prog W 0 (fun _ => true) true Try.f12.params.toList args.toList ds p := hA0
  rw [Try.params12] at hA hval
  obtain ⟨v0, d0, rfl, rfl, h0⟩ := trodAll_one hA
  obtain ⟨rfl, rfl⟩ := trodVars_none hV
  clear hA0 hval0
  simp only [List.append_nil] at hW'
  have k0 := h0
  have lt0 : ∀ x ∈ p, x.block < W.heap.size := fun x hx => by have := hW'.lt x (by simp [hx]); simpa using this
  have args0 : ∀ (W' : World), Below W.heap.size W W' → DataW.Trod enc Try.prog W' 0 (fun b => decide (b < W.heap.size)) true 51 v0 d0 p :=
    fun W' hn => Below.trod laid_out (by kernel_rfl) (of_decide_eq_true (by kernel_rfl)) k0 hn lt0
  obtain ⟨a0, b0, y0, z0, n0, rfl, _, _, hy0, hz0⟩ := open_agg2 Try.underlying51 (by kernel_rfl) (by kernel_rfl) (hval 0 51 _ rfl rfl) h0
  obtain ⟨A0, cs0, ca0, rfl, RA0, la0, ra0⟩ := open_rc Try.underlying49 Try.underlying118 (by kernel_rfl) (by kernel_rfl) rfl rfl rfl Try.underlying4 Try.underlying3 Try.underlying29 (by kernel_rfl) hy0
  obtain ⟨B0, xs0, cb0, rfl, RB0, lb0, _⟩ := open_r1 Try.underlying29 Try.underlying3 (by kernel_rfl) hz0
  refine (laws_FnExactCopySteps_c (fun _ => True) A0 B0 ⟨cs0, xs0⟩ ca0 cb0 W RA0 RB0 la0 ra0 lb0).mono fun e W' hr => ?_
  obtain ⟨v, he, hv, hg⟩ := hr
  subst he; subst hv
  exact ⟨_, rfl, _, _, _, [], p, [], hW', trodAll_mk1 (shut_bool Try.underlying4 _), trodAll_mk1 (args0 W' hg.below), rfl, hg.below.frame _, fun h => by cases h⟩

theorem FnExactCopySteps_named : Try.pinned.checked.prog.funcNamed Rows.fnExactCopyStepsRow.func = some 12 := by kernel_rfl
set_option maxHeartbeats 4000000 in
theorem FnExactCopySteps_facts : joinedFacts Try.pinned.checked.prog 12 Try.f12 Rows.fnExactCopyStepsSpec Rows.fnExactCopyStepsRow = true := by
  unfold joinedFacts
  rw [head_make, head_final, head_enter]
  simp only [Bool.and_eq_true]
  (repeat' apply And.intro) <;> first | exact True.intro | as_aux_lemma => kernel_rfl
theorem FnExactCopySteps_inst : Try.f12.isInstance Try.pinned.checked.prog Rows.fnExactCopyStepsRow.origin Rows.fnExactCopyStepsRow.targs := of_decide_eq_true (by kernel_rfl)
theorem FnExactCopySteps_wrap : Try.f12.isWrapper Try.pinned.checked.prog Rows.fnExactCopyStepsRow.wrapper Rows.fnExactCopyStepsRow.mainSum := by
  unfold Func.isWrapper
  first | (rw [if_pos (by decide +kernel)]; kernel_rfl) | (rw [if_neg (by decide +kernel)]; exact ⟨rfl, rfl⟩)
/-- The statement. -/
theorem FnExactCopySteps_holds : Rows.FnExactCopyStepsSaid :=
  OpenClaim.holds_of_wide 12 Try.f12 rfl rfl rfl rfl rfl rfl rfl ⟨rfl, rfl, rfl, rfl, rfl⟩ rfl rfl rfl rfl rfl FnExactCopySteps_named Try.func12 FnExactCopySteps_facts FnExactCopySteps_inst FnExactCopySteps_wrap
    (fun os started H enc _ => FnExactCopySteps_lifted os started H enc)

end Go.Proofs.Ytfcblicpfbfojaa
