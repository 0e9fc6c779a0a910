/-
  The law FnExactCommandValid returns true whatever the input, and its argument reads as before.
  Conditions: those that each theorem states.
-/
import Derived.Test.YtfcblicpfbfojaaTy
import Derived.Test.YtfcblicpfbfojaaLawCommandValid
import Derived.Test.YtfcblicpfbfojaaRows
import Derived.Test.YtfcblicpfbfojaaOpen
import Derived.Test.YtfcblicpfbfojaaWords
namespace Go.Proofs.Ytfcblicpfbfojaa
open Go Go.ChangeShapes Go.WideShapes Go.ChangeAt Go.RowKit Go.Deep Go.Joins

theorem own_knob : ownKnob Try.prog.godebug = none := by kernel_rfl
theorem laid_out : laidOutB Try.prog = true := by kernel_rfl

set_option maxRecDepth 100000 in
theorem FnExactCommandValid_lifted (os : Os) (started : os.Started) (H : Type) (enc : TypeId × Value → H) :
    ReturnsInHanded {} Try.checked os 3 .any (Rows.fnExactCommandValidSpec.pre6 enc Try.prog Try.f3 Rows.fnExactCommandValidRow.domain false) (Rows.fnExactCommandValidSpec.post enc Try.prog Try.f3 false true false false) := by
  refine returnsInHanded_of_change (C := Try.checked) own_knob started (by kernel_rfl) Try.func3
    (ChangeSpec.witness6 (enc := enc) (C := Try.checked) false ⟨#[], #[.agg #[.int .i64 0, .int .i64 0, .int .i64 0, .int .i64 0]], []⟩ 8 (by kernel_rfl) (by kernel_rfl) (by kernel_rfl) (by kernel_rfl)) ?_
  intro W base args ds gs before hval0 hW _ _
  have hval : ∀ (j : Nat) t v, Try.f3.params[j]? = some t → args[j]? = some v → Value.okWide Try.prog W .any base t v := hval0
  have hW' := hW
  obtain ⟨p, q, hA0, hV, rfl, _, _⟩ := hW
  have hA : DataW.TrodAll enc Try.prog W 0 (fun _ => true) true Try.f3.params.toList args.toList ds p := hA0
  rw [Try.params3] at hA hval
  obtain ⟨v0, d0, rfl, rfl, h0⟩ := trodAll_one hA
  obtain ⟨rfl, rfl⟩ := trodVars_none hV
  clear hA0 hval0
  simp only [List.append_nil] at hW'
  have k0 := h0
  have lt0 : ∀ x ∈ p, x.block < W.heap.size := fun x hx => by have := hW'.lt x (by simp [hx]); simpa using this
  have args0 : ∀ (W' : World), Below W.heap.size W W' → DataW.Trod enc Try.prog W' 0 (fun b => decide (b < W.heap.size)) true 23 v0 d0 p :=
    fun W' hn => Below.trod laid_out (by kernel_rfl) (of_decide_eq_true (by kernel_rfl)) k0 hn lt0
  obtain ⟨a0, b0, c0, d0, y0, z0, u0, v0, n0, rfl, _, _, ha0, hb0, hc0, hd0⟩ := open_agg4 Try.underlying23 (by kernel_rfl) (by kernel_rfl) (hval 0 23 _ rfl rfl) h0
  obtain ⟨ma0, ea0, _, _⟩ := DataW.trod_int Try.underlying3 ha0
  simp only [List.cons.injEq, and_true] at ea0
  subst ea0
  obtain ⟨mb0, eb0, _, _⟩ := DataW.trod_int Try.underlying3 hb0
  simp only [List.cons.injEq, and_true] at eb0
  subst eb0
  obtain ⟨mc0, ec0, _, _⟩ := DataW.trod_int Try.underlying3 hc0
  simp only [List.cons.injEq, and_true] at ec0
  subst ec0
  obtain ⟨md0, ed0, _, _⟩ := DataW.trod_int Try.underlying3 hd0
  simp only [List.cons.injEq, and_true] at ed0
  subst ed0
  refine (laws_FnExactCommandValid_c ma0 mb0 mc0 md0 W ).mono fun e W' hr => ?_
  obtain ⟨v, he, hv, hg⟩ := hr
  subst he; subst hv
  exact ⟨_, rfl, _, _, _, [], p, [], hW', trodAll_mk1 (shut_bool Try.underlying4 _), trodAll_mk1 (args0 W' hg.below), rfl, hg.below.frame _, fun h => by cases h⟩

theorem FnExactCommandValid_named : Try.pinned.checked.prog.funcNamed Rows.fnExactCommandValidRow.func = some 3 := by kernel_rfl
set_option maxHeartbeats 4000000 in
theorem FnExactCommandValid_facts : joinedFacts Try.pinned.checked.prog 3 Try.f3 Rows.fnExactCommandValidSpec Rows.fnExactCommandValidRow = true := by
  unfold joinedFacts
  rw [head_make, head_final, head_enter]
  simp only [Bool.and_eq_true]
  (repeat' apply And.intro) <;> first | exact True.intro | as_aux_lemma => kernel_rfl
theorem FnExactCommandValid_inst : Try.f3.isInstance Try.pinned.checked.prog Rows.fnExactCommandValidRow.origin Rows.fnExactCommandValidRow.targs := of_decide_eq_true (by kernel_rfl)
theorem FnExactCommandValid_wrap : Try.f3.isWrapper Try.pinned.checked.prog Rows.fnExactCommandValidRow.wrapper Rows.fnExactCommandValidRow.mainSum := by
  unfold Func.isWrapper
  first | (rw [if_pos (by decide +kernel)]; kernel_rfl) | (rw [if_neg (by decide +kernel)]; exact ⟨rfl, rfl⟩)
/-- The statement. -/
theorem FnExactCommandValid_holds : Rows.FnExactCommandValidSaid :=
  OpenClaim.holds_of_wide 3 Try.f3 rfl rfl rfl rfl rfl rfl rfl ⟨rfl, rfl, rfl, rfl, rfl⟩ rfl rfl rfl rfl rfl FnExactCommandValid_named Try.func3 FnExactCommandValid_facts FnExactCommandValid_inst FnExactCommandValid_wrap
    (fun os started H enc _ => FnExactCommandValid_lifted os started H enc)

end Go.Proofs.Ytfcblicpfbfojaa
