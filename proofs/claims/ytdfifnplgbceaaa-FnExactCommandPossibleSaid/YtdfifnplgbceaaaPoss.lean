/-
  Instructions that have an effect.
  Conditions: none.
-/
import Derived.Test.YtdfifnplgbceaaaSteps
import Derived.Test.YtdfifnplgbceaaaCmd
namespace Go.Proofs.Ytdfifnplgbceaaa
open Go Go.RowKit

section
variable {P : Program} {ops : Array Oper} {Q : Exit → Act → World → Prop} {S : World → Prop} {fuel : Nat} {lst : List Bool} {F : Fr} {D : List Deferred} {w : World} {i j : Nat}
  {d : Tmp} {ty : TypeId} {pos : String} {af : Array Edge}
theorem E_callcn {f : FuncId} {x : Operand} {xs : List Operand} {ats : Array TypeId} {vs cs : List Value} {R : Value → World → Prop} {b : Bool} {t : Tmp} (hi : ops[i]? = some ⟨some d, .call ⟨.value x, xs.toArray, ats⟩, ty, pos, af, some (j, b)⟩)
    (hj : (ops[j]?).bind (·.dst) = some t) (hv : F.get t = some (.bool b)) (hx : ev F x = some (.func (.func f) #[] cs.toArray)) (ha : evs F xs = some vs) (hf : Enters P f) (hc : Calls P f (vs ++ cs).toArray w (Ret R))
    (h : ∀ v w', R v w' → S w' ∧ wpAnyH P .any ops Q S fuel (lst.set i true).toArray ⟨(F.put d v).list.toArray, D⟩ w') : dOp P ops Q S fuel lst ⟨F.list.toArray, D⟩ w i := by
  refine E_on hi hj hv ?_
  have hm := evs_eval (D := D) ha
  have he := ev_eval (D := D) hx
  unfold Oper.wp execOp
  simp only [resolve, he, Deferred.ofValue, Sem.run_bind, Sem.run_pure, Result.andThen_ok, invoke, List.map_toArray]
  rw [show (xs.map (Act.mk F.list.toArray D).eval) = vs from hm]
  simp only [List.append_toArray, hf _ _, Oper.upon]
  refine hc.mono fun e w' ⟨v, he, hr⟩ => ?_
  subst he
  have h9 := h v w' hr
  rw [← put_some] at h9
  exact h9
end
/-- The cell that root i leads to has a reference number c. -/
def placeB (h : LH) (i c : Int) : Bool := match h.roots[i.toNat]? with
  | some r => decide (0 ≤ r) && decide (c < ((refsOf h.cells r.toNat).length : Int))
  | none => false
def rootB (h : LH) (i : Int) : Bool := match h.roots[i.toNat]? with
  | some r => decide (0 ≤ r)
  | none => false
def effectB (h : LH) (o : LCmd) : Bool := if o.op = 2 then placeB h o.b o.c else if o.op = 3 then placeB h o.a o.c else if o.op = 6 then rootB h o.a else true
def possB (h : LH) (o : LCmd) : Bool := validB h && (cvB o && effectB h o)
theorem possB_f1 {h : LH} {o : LCmd} (hv : validB h = false) : possB h o = false := by simp [possB, hv]
theorem possB_f2 {h : LH} {o : LCmd} (hv : cvB o = false) : possB h o = false := by simp [possB, hv]
theorem possB_t {h : LH} {o : LCmd} (hv : validB h = true) (hc : cvB o = true) : possB h o = effectB h o := by simp [possB, hv, hc]
theorem placeB_at {h : LH} {n : Nat} {c : Int} (hn : n < h.roots.length) : placeB h (n : Int) c = (decide (0 ≤ h.roots[n]) && decide (c < ((refsOf h.cells h.roots[n].toNat).length : Int))) := by simp [placeB, hn]
theorem placeB_neg {h : LH} {n : Nat} {c : Int} (hn : n < h.roots.length) (h0 : h.roots[n] < 0) : placeB h (n : Int) c = false := by
  rw [placeB_at hn]
  have : ¬ 0 ≤ h.roots[n] := by omega
  simp [this]
theorem placeB_pos {h : LH} {n m : Nat} {c : Int} (hn : n < h.roots.length) (h0 : h.roots[n] = (m : Int)) (hm : m < h.cells.length) : placeB h (n : Int) c = decide (c < (h.cells[m].refs.length : Int)) := by
  rw [placeB_at hn, h0]
  simp [refsOf_at hm]
theorem rootB_at {h : LH} {n : Nat} (hn : n < h.roots.length) : rootB h (n : Int) = decide (0 ≤ h.roots[n]) := by simp [rootB, hn]
theorem cvB_d0 {o : LCmd} (h : cvB o = true) : cvP o := of_decide_eq_true h
theorem valid_root {h : LH} (v : Valid h) {n : Nat} (hn : n < h.roots.length) (h0 : 0 ≤ h.roots[n]) : ∃ m : Nat, h.roots[n] = (m : Int) ∧ m < h.cells.length := by
  have := leadsB_lt (v.roots _ (List.getElem_mem hn)) h0
  exact ⟨h.roots[n].toNat, by omega, by omega⟩
end Go.Proofs.Ytdfifnplgbceaaa
