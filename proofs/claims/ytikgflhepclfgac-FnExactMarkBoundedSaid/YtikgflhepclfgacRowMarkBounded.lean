/-
  The law FnExactMarkBounded returns true whatever the input, and its arguments read as before.
  Conditions: those that each theorem states.
-/
import Derived.Test.YtikgflhepclfgacLawMarkBounded
import Derived.Test.YtikgflhepclfgacRows
import Derived.Test.YtikgflhepclfgacWords
set_option linter.unusedVariables false
set_option linter.unusedSimpArgs false
namespace Go.Proofs.Ytikgflhepclfgac
open Go Go.ChangeShapes Go.WideShapes Go.ChangeAt Go.RowKit Go.Deep Go.Joins

theorem own_knob : ownKnob Try.prog.godebug = none := by kernel_rfl
theorem laid_out : laidOutB Try.prog = true := by kernel_rfl

set_option maxRecDepth 100000 in
theorem FnExactMarkBounded_lifted (os : Os) (started : os.Started) (H : Type) (enc : TypeId × Value → H) :
    ReturnsInHanded {} Try.checked os 3 .any (Rows.fnExactMarkBoundedSpec.pre6 enc Try.prog Try.f3 Rows.fnExactMarkBoundedRow.domain false) (Rows.fnExactMarkBoundedSpec.post enc Try.prog Try.f3 false true false false) := by
  refine returnsInHanded_of_change (C := Try.checked) own_knob started (by kernel_rfl) Try.func3
    (ChangeSpec.witness6 (enc := enc) (C := Try.checked) false ⟨#[], #[.agg #[.slice none 0 0, .slice none 0 0], .int .i64 0], []⟩ 8 (by kernel_rfl) (by kernel_rfl) (by kernel_rfl) (by kernel_rfl)) ?_
  intro W base args ds gs before hval0 hW _ _
  have hval : ∀ (j : Nat) t v, Try.f3.params[j]? = some t → args[j]? = some v → Value.okWide Try.prog W .any base t v := hval0
  have hW' := hW
  obtain ⟨p, q, hA0, hV, rfl, _, _⟩ := hW
  have hA : DataW.TrodAll enc Try.prog W 0 (fun _ => true) true Try.f3.params.toList args.toList ds p := hA0
  rw [Try.params3] at hA hval
  obtain ⟨v0, v1, d0, d1, p0, p1, rfl, rfl, rfl, h0, h1⟩ := trodAll_two hA
  obtain ⟨rfl, rfl⟩ := trodVars_none hV
  clear hA0 hval0
  simp only [List.append_nil] at hW'
  have k0 := h0
  have lt0 : ∀ x ∈ p0, x.block < W.heap.size := fun x hx => by have := hW'.lt x (by simp [hx]); simpa using this
  have args0 : ∀ (W' : World), Below W.heap.size W W' → DataW.Trod enc Try.prog W' 0 (fun b => decide (b < W.heap.size)) true 25 v0 d0 p0 :=
    fun W' hn => Below.trod laid_out (by kernel_rfl) (of_decide_eq_true (by kernel_rfl)) k0 hn lt0
  obtain ⟨a0, b0, y0, z0, n0, rfl, _, _, hy0, hz0⟩ := open_agg2 Try.underlying25 (by kernel_rfl) (by kernel_rfl) (hval 0 25 _ rfl rfl) h0
  obtain ⟨A0, cs0, ca0, rfl, RA0, la0, ra0⟩ := open_rc Try.underlying22 Try.underlying113 (by kernel_rfl) (by kernel_rfl) rfl rfl rfl Try.underlying4 Try.underlying3 Try.underlying23 (by kernel_rfl) hy0
  obtain ⟨B0, xs0, cb0, rfl, RB0, lb0, _⟩ := open_r1 Try.underlying23 Try.underlying3 (by kernel_rfl) hz0
  have k1 := h1
  have lt1 : ∀ x ∈ p1, x.block < W.heap.size := fun x hx => by have := hW'.lt x (by simp [hx]); simpa using this
  have args1 : ∀ (W' : World), Below W.heap.size W W' → DataW.Trod enc Try.prog W' 0 (fun b => decide (b < W.heap.size)) true 3 v1 d1 p1 :=
    fun W' hn => Below.trod laid_out (by kernel_rfl) (of_decide_eq_true (by kernel_rfl)) k1 hn lt1
  obtain ⟨m1, rfl, _, _, wf1⟩ := open_int Try.underlying3 (hval 1 3 _ rfl rfl) h1
  have rg1 : -9223372036854775808 ≤ m1 ∧ m1 ≤ 9223372036854775807 := by simp [Lit.wf, IntKind.min, IntKind.max, IntKind.bits, IntKind.signed] at wf1; omega
  refine (laws_FnExactMarkBounded_c (fun _ => True) A0 B0 ⟨cs0, xs0⟩ ca0 cb0 m1 W RA0 RB0 la0 ra0 lb0 rg1).mono fun e W' hr => ?_
  obtain ⟨v, he, hv, hg⟩ := hr
  subst he; subst hv
  exact ⟨_, rfl, _, _, _, [], p0 ++ p1, [], hW', trodAll_mk1 (shut_bool Try.underlying4 _), trodAll_mk2 (args0 W' hg.below) (args1 W' hg.below), rfl, hg.below.frame _, fun h => by cases h⟩

theorem FnExactMarkBounded_named : Try.pinned.checked.prog.funcNamed Rows.fnExactMarkBoundedRow.func = some 3 := by kernel_rfl
set_option maxHeartbeats 4000000 in
theorem FnExactMarkBounded_facts : joinedFacts Try.pinned.checked.prog 3 Try.f3 Rows.fnExactMarkBoundedSpec Rows.fnExactMarkBoundedRow = true := by
  unfold joinedFacts
  rw [head_make, head_final, head_enter]
  simp only [Bool.and_eq_true]
  (repeat' apply And.intro) <;> first | exact True.intro | as_aux_lemma => kernel_rfl
theorem FnExactMarkBounded_inst : Try.f3.isInstance Try.pinned.checked.prog Rows.fnExactMarkBoundedRow.origin Rows.fnExactMarkBoundedRow.targs := of_decide_eq_true (by kernel_rfl)
theorem FnExactMarkBounded_wrap : Try.f3.isWrapper Try.pinned.checked.prog Rows.fnExactMarkBoundedRow.wrapper Rows.fnExactMarkBoundedRow.mainSum := by
  unfold Func.isWrapper
  first | (rw [if_pos (by decide +kernel)]; kernel_rfl) | (rw [if_neg (by decide +kernel)]; exact ⟨rfl, rfl⟩)
/-- The statement. -/
theorem FnExactMarkBounded_holds : Rows.FnExactMarkBoundedSaid :=
  OpenClaim.holds_of_wide 3 Try.f3 rfl rfl rfl rfl rfl rfl rfl ⟨rfl, rfl, rfl, rfl, rfl⟩ rfl rfl rfl rfl rfl FnExactMarkBounded_named Try.func3 FnExactMarkBounded_facts FnExactMarkBounded_inst FnExactMarkBounded_wrap
    (fun os started H enc _ => FnExactMarkBounded_lifted os started H enc)

end Go.Proofs.Ytikgflhepclfgac
