/-
  What a valid heap reaches, as the two sides compute it.
  Conditions: none.
-/
import Derived.Test.YtjmfdmndchoplaaDfs
import Derived.Test.YtjmfdmndchoplaaWalkE
namespace Go.Proofs.Ytjmfdmndchoplaa
open Go

theorem orderL_ord {cs : List LC} {fr : List Int} (hl : Leads cs fr nn) : ∀ (f i : Nat) (s : List Int), i + f = cs.length → Ord cs fr nn i s → Ord cs fr nn (bfs cs nn f i s).length (bfs cs nn f i s)
  | 0, i, s, hi, h => by
    have hb := (h.bnd hl).len
    have h2 := h.le
    unfold bfs
    have e : i = s.length := by omega
    rw [← e]
    exact h
  | f + 1, i, s, hi, h => by
    by_cases hlt : i < s.length
    · obtain ⟨n, hn, hnN, hg⟩ := bnd_at (h.bnd hl) hlt
      rw [bfs_step hg]
      exact orderL_ord hl f (i + 1) _ (by omega) (h.next hg)
    · rw [bfs_end (by omega)]
      have e : i = s.length := by have := h.le; omega
      rw [← e]
      exact h
theorem orderL_mem {cs : List LC} {fr : List Int} (hl : Leads cs fr nn) {n : Nat} : (n : Int) ∈ orderL cs fr nn ↔ Rch cs fr nn n := by
  have h := orderL_ord hl cs.length 0 (meet nn [] fr) (by omega) (Ord.start _ _ _)
  exact ⟨h.sound n, fun hn => h.all (Nat.le_refl _) hn⟩
/-- Every reference is -1 or leads to a used cell. -/
def LeadsU (cs : List LC) (fr : List Int) : Prop := (∀ x ∈ fr, leadsB cs x = true) ∧ ∀ m, ∀ x ∈ refsOf cs m, leadsB cs x = true
theorem Valid.leadsU {h : LH} (v : Valid h) : LeadsU h.cells h.roots := by
  refine ⟨v.roots, fun m x hx => ?_⟩
  by_cases hm : m < h.cells.length
  · rw [refsOf_at hm] at hx
    exact v.refs hm x hx
  · simp [refsOf, List.getElem?_eq_none (by omega : h.cells.length ≤ m)] at hx
theorem leadsB_used {cs : List LC} {n : Nat} (h : leadsB cs (n : Int) = true) : usedAt cs n = true := by
  unfold leadsB at h
  have : ¬ ((n : Int) = -1) := by omega
  simpa [this] using h
theorem used_bit {cs : List LC} {m n : Nat} (hm : SetOf m (usedL cs)) (h : usedAt cs n = true) : m.testBit n = true := by
  rw [hm.2]
  unfold usedAt at h
  split at h
  · rename_i c hc
    simp [usedL, hc, h]
  · cases h
/-- To go over all references is to go over those that lead to used cells. -/
theorem rch_used {cs : List LC} {fr : List Int} {m : Nat} (hl : LeadsU cs fr) (hm : SetOf m (usedL cs)) {n : Nat} : Rch cs fr (hasB m) n ↔ Rch cs fr nn n := by
  constructor
  · intro h
    induction h with
    | root h1 h2 => exact .root h1 (by simp [nn])
    | step _ h1 h2 ih => exact .step ih h1 (by simp [nn])
  · intro h
    induction h with
    | root h1 h2 => exact .root h1 (by rw [hasB_nat]; exact used_bit hm (leadsB_used (hl.1 _ h1)))
    | step _ h1 h2 ih => exact .step ih h1 (by rw [hasB_nat]; exact used_bit hm (leadsB_used (hl.2 _ _ h1)))
/-- The set as the program has it, the marks as the reference has them. -/
theorem list_eq {cs : List LC} {fr : List Int} {m u N : Nat} (hl : Leads cs fr nn) (hu : LeadsU cs fr) (hm : SetOf u (usedL cs)) (hr : ∀ n, m.testBit n = true ↔ Rch cs fr (hasB u) n) : listB m N = mB N (orderL cs fr nn) := by
  unfold listB mB
  apply List.map_congr_left
  intro i _
  rw [Bool.eq_iff_iff, decide_eq_true_eq, hr, rch_used hu hm, orderL_mem hl]
end Go.Proofs.Ytjmfdmndchoplaa
