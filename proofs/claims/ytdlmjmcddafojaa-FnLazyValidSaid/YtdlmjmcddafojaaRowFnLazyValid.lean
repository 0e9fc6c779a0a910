/-
  The law FnLazyValid returns true whatever the input, and its argument reads as before.
  Conditions: those that each theorem states.
-/
import Derived.Test.YtdlmjmcddafojaaLawFnLazyValid
import Derived.Test.YtdlmjmcddafojaaRows
import Derived.Test.YtdlmjmcddafojaaWords
set_option linter.unusedVariables false
set_option linter.unusedSimpArgs false
namespace Go.Proofs.Ytdlmjmcddafojaa
open Go Go.ChangeShapes Go.WideShapes Go.ChangeAt Go.RowKit Go.Deep Go.Joins

theorem own_knob : ownKnob Try.prog.godebug = none := by kernel_rfl
theorem laid_out : laidOutB Try.prog = true := by kernel_rfl

set_option maxRecDepth 100000 in
theorem FnLazyValid_lifted (os : Os) (started : os.Started) (H : Type) (enc : TypeId × Value → H) :
    ReturnsInHanded {} Try.checked os 4 .any (Rows.fnLazyValidSpec.pre6 enc Try.prog Try.f4 Rows.fnLazyValidRow.domain false) (Rows.fnLazyValidSpec.post enc Try.prog Try.f4 false true false false) := by
  refine returnsInHanded_of_change (C := Try.checked) own_knob started (by kernel_rfl) Try.func4
    (ChangeSpec.witness6 (enc := enc) (C := Try.checked) false ⟨#[], #[.slice none 0 0], []⟩ 8 (by kernel_rfl) (by kernel_rfl) (by kernel_rfl) (by kernel_rfl)) ?_
  intro W base args ds gs before hval0 hW _ _
  have hval : ∀ (j : Nat) t v, Try.f4.params[j]? = some t → args[j]? = some v → Value.okWide Try.prog W .any base t v := hval0
  have hW' := hW
  obtain ⟨p, q, hA0, hV, rfl, _, _⟩ := hW
  have hA : DataW.TrodAll enc Try.prog W 0 (fun _ => true) true Try.f4.params.toList args.toList ds p := hA0
  rw [Try.params4] at hA hval
  obtain ⟨v0, d0, rfl, rfl, h0⟩ := trodAll_one hA
  obtain ⟨rfl, rfl⟩ := trodVars_none hV
  clear hA0 hval0
  simp only [List.append_nil] at hW'
  have k0 := h0
  have lt0 : ∀ x ∈ p, x.block < W.heap.size := fun x hx => by have := hW'.lt x (by simp [hx]); simpa using this
  have args0 : ∀ (W' : World), Below W.heap.size W W' → DataW.Trod enc Try.prog W' 0 (fun b => decide (b < W.heap.size)) true 22 v0 d0 p :=
    fun W' hn => Below.trod laid_out (by kernel_rfl) (of_decide_eq_true (by kernel_rfl)) k0 hn lt0
  obtain ⟨f0, ht0⟩ := trod_top Try.underlying22 (hval 0 22 _ rfl rfl) h0
  obtain ⟨A0, xs0, ca0, rfl, RA0, la0, lc0, rg0⟩ := open_ru Try.underlying22 Try.underlying5 (by kernel_rfl) ht0
  refine (laws_FnLazyValid_c (fun _ => True) A0 xs0 ca0 W RA0 la0 lc0 rg0).mono fun e W' hr => ?_
  obtain ⟨v, he, hv, hg⟩ := hr
  subst he; subst hv
  exact ⟨_, rfl, _, _, _, [], p, [], hW', trodAll_mk1 (shut_bool Try.underlying4 _), trodAll_mk1 (args0 W' hg.below), rfl, hg.below.frame _, fun h => by cases h⟩

theorem FnLazyValid_named : Try.pinned.checked.prog.funcNamed Rows.fnLazyValidRow.func = some 4 := by kernel_rfl
set_option maxHeartbeats 4000000 in
theorem FnLazyValid_facts : joinedFacts Try.pinned.checked.prog 4 Try.f4 Rows.fnLazyValidSpec Rows.fnLazyValidRow = true := by
  unfold joinedFacts
  rw [head_make, head_final, head_enter]
  simp only [Bool.and_eq_true]
  (repeat' apply And.intro) <;> first | exact True.intro | as_aux_lemma => kernel_rfl
theorem FnLazyValid_inst : Try.f4.isInstance Try.pinned.checked.prog Rows.fnLazyValidRow.origin Rows.fnLazyValidRow.targs := of_decide_eq_true (by kernel_rfl)
theorem FnLazyValid_wrap : Try.f4.isWrapper Try.pinned.checked.prog Rows.fnLazyValidRow.wrapper Rows.fnLazyValidRow.mainSum := by
  unfold Func.isWrapper
  first | (rw [if_pos (by decide +kernel)]; kernel_rfl) | (rw [if_neg (by decide +kernel)]; exact ⟨rfl, rfl⟩)
/-- The statement. -/
theorem FnLazyValid_holds : Rows.FnLazyValidSaid :=
  OpenClaim.holds_of_wide 4 Try.f4 rfl rfl rfl rfl rfl rfl rfl ⟨rfl, rfl, rfl, rfl, rfl⟩ rfl rfl rfl rfl rfl FnLazyValid_named Try.func4 FnLazyValid_facts FnLazyValid_inst FnLazyValid_wrap
    (fun os started H enc _ => FnLazyValid_lifted os started H enc)

end Go.Proofs.Ytdlmjmcddafojaa
