/-
  The law FnExactLazyValid returns true whatever the input, and its argument reads as before.
  Conditions: those that each theorem states.
-/
import Derived.Test.YtdfifnplgbceaabTy
import Derived.Test.YtdfifnplgbceaabLawLazyValid
import Derived.Test.YtdfifnplgbceaabRows
import Derived.Test.YtdfifnplgbceaabOpen
import Derived.Test.YtdfifnplgbceaabWords
namespace Go.Proofs.Ytdfifnplgbceaab
open Go Go.ChangeShapes Go.WideShapes Go.ChangeAt Go.RowKit Go.Deep Go.Joins

theorem own_knob : ownKnob Try.prog.godebug = none := by kernel_rfl
theorem laid_out : laidOutB Try.prog = true := by kernel_rfl

set_option maxRecDepth 100000 in
theorem FnExactLazyValid_lifted (os : Os) (started : os.Started) (H : Type) (enc : TypeId × Value → H) :
    ReturnsInHanded {} Try.checked os 3 .any (Rows.fnExactLazyValidSpec.pre6 enc Try.prog Try.f3 Rows.fnExactLazyValidRow.domain false) (Rows.fnExactLazyValidSpec.post enc Try.prog Try.f3 false true false false) := by
  refine returnsInHanded_of_change (C := Try.checked) own_knob started (by kernel_rfl) Try.func3
    (ChangeSpec.witness6 (enc := enc) (C := Try.checked) false ⟨#[], #[.agg #[.slice none 0 0, .slice none 0 0, .slice none 0 0, .int .i64 0]], []⟩ 8 (by kernel_rfl) (by kernel_rfl) (by kernel_rfl) (by kernel_rfl)) ?_
  intro W base args ds gs before hval0 hW _ _
  have hval : ∀ (j : Nat) t v, Try.f3.params[j]? = some t → args[j]? = some v → Value.okWide Try.prog W .any base t v := hval0
  have hW' := hW
  obtain ⟨p, q, hA0, hV, rfl, _, _⟩ := hW
  have hA : DataW.TrodAll enc Try.prog W 0 (fun _ => true) true Try.f3.params.toList args.toList ds p := hA0
  rw [Try.params3] at hA hval
  obtain ⟨v0, d0, rfl, rfl, h0⟩ := trodAll_one hA
  obtain ⟨rfl, rfl⟩ := trodVars_none hV
  clear hA0 hval0
  simp only [List.append_nil] at hW'
  have k0 := h0
  have lt0 : ∀ x ∈ p, x.block < W.heap.size := fun x hx => by have := hW'.lt x (by simp [hx]); simpa using this
  have args0 : ∀ (W' : World), Below W.heap.size W W' → DataW.Trod enc Try.prog W' 0 (fun b => decide (b < W.heap.size)) true 28 v0 d0 p :=
    fun W' hn => Below.trod laid_out (by kernel_rfl) (of_decide_eq_true (by kernel_rfl)) k0 hn lt0
  obtain ⟨a0, b0, c0, e0, y0, z0, t0, s0, n0, m0, rfl, hy0, hz0, ht0, hs0⟩ := open_nest3 Try.underlying28 (by kernel_rfl) rfl (by kernel_rfl) rfl (by kernel_rfl) rfl (by kernel_rfl) Try.underlying25 (by kernel_rfl) (hval 0 28 _ rfl rfl) h0
  obtain ⟨A0, cs0, ca0, rfl, RA0, la0, ra0⟩ := open_rc Try.underlying22 Try.underlying115 (by kernel_rfl) (by kernel_rfl) rfl rfl rfl Try.underlying4 Try.underlying3 Try.underlying23 (by kernel_rfl) hy0
  obtain ⟨B0, xs0, cb0, rfl, RB0, lb0, _⟩ := open_r1 Try.underlying23 Try.underlying3 (by kernel_rfl) hz0
  obtain ⟨C0, ks0, cc0, rfl, RC0, lc0, _⟩ := open_rb Try.underlying26 Try.underlying4 (by kernel_rfl) ht0
  obtain ⟨at0, eat0, _, wat0⟩ := DataW.trod_int Try.underlying3 hs0
  simp only [List.cons.injEq, and_true] at eat0
  subst eat0
  have rg0 : -9223372036854775808 ≤ at0 ∧ at0 ≤ 9223372036854775807 := by simp [Lit.wf, IntKind.min, IntKind.max, IntKind.bits, IntKind.signed] at wat0; omega
  refine (laws_FnExactLazyValid_c (fun _ => True) A0 B0 C0 ⟨cs0, xs0⟩ ks0 at0 ca0 cb0 cc0 W RA0 RB0 RC0 la0 ra0 lb0 lc0 rg0).mono fun e W' hr => ?_
  obtain ⟨v, he, hv, hg⟩ := hr
  subst he; subst hv
  exact ⟨_, rfl, _, _, _, [], p, [], hW', trodAll_mk1 (shut_bool Try.underlying4 _), trodAll_mk1 (args0 W' hg.below), rfl, hg.below.frame _, fun h => by cases h⟩

theorem FnExactLazyValid_named : Try.pinned.checked.prog.funcNamed Rows.fnExactLazyValidRow.func = some 3 := by kernel_rfl
set_option maxHeartbeats 4000000 in
theorem FnExactLazyValid_facts : joinedFacts Try.pinned.checked.prog 3 Try.f3 Rows.fnExactLazyValidSpec Rows.fnExactLazyValidRow = true := by
  unfold joinedFacts
  rw [head_make, head_final, head_enter]
  simp only [Bool.and_eq_true]
  (repeat' apply And.intro) <;> first | exact True.intro | as_aux_lemma => kernel_rfl
theorem FnExactLazyValid_inst : Try.f3.isInstance Try.pinned.checked.prog Rows.fnExactLazyValidRow.origin Rows.fnExactLazyValidRow.targs := of_decide_eq_true (by kernel_rfl)
theorem FnExactLazyValid_wrap : Try.f3.isWrapper Try.pinned.checked.prog Rows.fnExactLazyValidRow.wrapper Rows.fnExactLazyValidRow.mainSum := by
  unfold Func.isWrapper
  first | (rw [if_pos (by decide +kernel)]; kernel_rfl) | (rw [if_neg (by decide +kernel)]; exact ⟨rfl, rfl⟩)
/-- The statement. -/
theorem FnExactLazyValid_holds : Rows.FnExactLazyValidSaid :=
  OpenClaim.holds_of_wide 3 Try.f3 rfl rfl rfl rfl rfl rfl rfl ⟨rfl, rfl, rfl, rfl, rfl⟩ rfl rfl rfl rfl rfl FnExactLazyValid_named Try.func3 FnExactLazyValid_facts FnExactLazyValid_inst FnExactLazyValid_wrap
    (fun os started H enc _ => FnExactLazyValid_lifted os started H enc)

end Go.Proofs.Ytdfifnplgbceaab
