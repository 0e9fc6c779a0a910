/-
  The law FnExactCollectCycles returns true whatever the input, and its argument reads as before.
  Conditions: those that each theorem states.
-/
import Derived.Test.YtjmfdmndchoplaaTy
import Derived.Test.YtjmfdmndchoplaaLawCollectCycles
import Derived.Test.YtjmfdmndchoplaaRows
import Derived.Test.YtjmfdmndchoplaaOpen
import Derived.Test.YtjmfdmndchoplaaWords
namespace Go.Proofs.Ytjmfdmndchoplaa
open Go Go.ChangeShapes Go.WideShapes Go.ChangeAt Go.RowKit Go.Deep Go.Joins

theorem own_knob : ownKnob Try.prog.godebug = none := by kernel_rfl
theorem laid_out : laidOutB Try.prog = true := by kernel_rfl

set_option maxRecDepth 100000 in
theorem FnExactCollectCycles_lifted (os : Os) (started : os.Started) (H : Type) (enc : TypeId × Value → H) :
    ReturnsInHanded {} Try.checked os 9 .any (Rows.fnExactCollectCyclesSpec.pre6 enc Try.prog Try.f9 Rows.fnExactCollectCyclesRow.domain false) (Rows.fnExactCollectCyclesSpec.post enc Try.prog Try.f9 false true false false) := by
  refine returnsInHanded_of_change (C := Try.checked) own_knob started (by kernel_rfl) Try.func9
    (ChangeSpec.witness6 (enc := enc) (C := Try.checked) false ⟨#[], #[.agg #[.slice none 0 0, .slice none 0 0, .slice none 0 0]], []⟩ 8 (by kernel_rfl) (by kernel_rfl) (by kernel_rfl) (by kernel_rfl)) ?_
  intro W base args ds gs before hval0 hW _ _
  have hval : ∀ (j : Nat) t v, Try.f9.params[j]? = some t → args[j]? = some v → Value.okWide Try.prog W .any base t v := hval0
  have hW' := hW
  obtain ⟨p, q, hA0, hV, rfl, _, _⟩ := hW
  have hA : DataW.TrodAll enc Try.prog W 0 (fun _ => true) true Try.f9.params.toList args.toList ds p := hA0
  rw [Try.params9] at hA hval
  obtain ⟨v0, d0, rfl, rfl, h0⟩ := trodAll_one hA
  obtain ⟨rfl, rfl⟩ := trodVars_none hV
  clear hA0 hval0
  simp only [List.append_nil] at hW'
  have k0 := h0
  have lt0 : ∀ x ∈ p, x.block < W.heap.size := fun x hx => by have := hW'.lt x (by simp [hx]); simpa using this
  have args0 : ∀ (W' : World), Below W.heap.size W W' → DataW.Trod enc Try.prog W' 0 (fun b => decide (b < W.heap.size)) true 58 v0 d0 p :=
    fun W' hn => Below.trod laid_out (by kernel_rfl) (of_decide_eq_true (by kernel_rfl)) k0 hn lt0
  obtain ⟨a0, b0, c0, y0, z0, t0, n0, m0, rfl, hy0, hz0, ht0⟩ := open_nest2 Try.underlying58 (by kernel_rfl) rfl (by kernel_rfl) rfl (by kernel_rfl) Try.underlying36 (by kernel_rfl) (hval 0 58 _ rfl rfl) h0
  obtain ⟨A0, cs0, ca0, rfl, RA0, la0, ra0⟩ := open_rc Try.underlying34 Try.underlying108 (by kernel_rfl) (by kernel_rfl) rfl rfl rfl Try.underlying4 Try.underlying3 Try.underlying22 (by kernel_rfl) hy0
  obtain ⟨B0, xs0, cb0, rfl, RB0, lb0, _⟩ := open_r1 Try.underlying22 Try.underlying3 (by kernel_rfl) hz0
  obtain ⟨C0, ks0, cc0, rfl, RC0, lc0, _⟩ := open_r1 Try.underlying22 Try.underlying3 (by kernel_rfl) ht0
  refine (laws_FnExactCollectCycles_c (fun _ => True) A0 B0 C0 ⟨cs0, xs0⟩ ks0 ca0 cb0 cc0 W RA0 RB0 RC0 la0 ra0 lb0 lc0).mono fun e W' hr => ?_
  obtain ⟨v, he, hv, hg⟩ := hr
  subst he; subst hv
  exact ⟨_, rfl, _, _, _, [], p, [], hW', trodAll_mk1 (shut_bool Try.underlying4 _), trodAll_mk1 (args0 W' hg.below), rfl, hg.below.frame _, fun h => by cases h⟩

theorem FnExactCollectCycles_named : Try.pinned.checked.prog.funcNamed Rows.fnExactCollectCyclesRow.func = some 9 := by kernel_rfl
set_option maxHeartbeats 4000000 in
theorem FnExactCollectCycles_facts : joinedFacts Try.pinned.checked.prog 9 Try.f9 Rows.fnExactCollectCyclesSpec Rows.fnExactCollectCyclesRow = true := by
  unfold joinedFacts
  rw [head_make, head_final, head_enter]
  simp only [Bool.and_eq_true]
  (repeat' apply And.intro) <;> first | exact True.intro | as_aux_lemma => kernel_rfl
theorem FnExactCollectCycles_inst : Try.f9.isInstance Try.pinned.checked.prog Rows.fnExactCollectCyclesRow.origin Rows.fnExactCollectCyclesRow.targs := of_decide_eq_true (by kernel_rfl)
theorem FnExactCollectCycles_wrap : Try.f9.isWrapper Try.pinned.checked.prog Rows.fnExactCollectCyclesRow.wrapper Rows.fnExactCollectCyclesRow.mainSum := by
  unfold Func.isWrapper
  first | (rw [if_pos (by decide +kernel)]; kernel_rfl) | (rw [if_neg (by decide +kernel)]; exact ⟨rfl, rfl⟩)
/-- The statement. -/
theorem FnExactCollectCycles_holds : Rows.FnExactCollectCyclesSaid :=
  OpenClaim.holds_of_wide 9 Try.f9 rfl rfl rfl rfl rfl rfl rfl ⟨rfl, rfl, rfl, rfl, rfl⟩ rfl rfl rfl rfl rfl FnExactCollectCycles_named Try.func9 FnExactCollectCycles_facts FnExactCollectCycles_inst FnExactCollectCycles_wrap
    (fun os started H enc _ => FnExactCollectCycles_lifted os started H enc)

end Go.Proofs.Ytjmfdmndchoplaa
