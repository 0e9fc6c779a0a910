/-
  What validity gives; the work of a copy.
  Conditions: none.
-/
import Derived.Test.YtjmfdmndchoplaaMeet
namespace Go.Proofs.Ytjmfdmndchoplaa
open Go

theorem usedAt_lt {cs : List LC} {n : Nat} (h : usedAt cs n = true) : n < cs.length := by
  unfold usedAt at h
  split at h
  · rename_i c hc
    exact (List.getElem?_eq_some_iff.1 hc).1
  · cases h
theorem leadsB_lt {cs : List LC} {r : Int} (h : leadsB cs r = true) (h0 : 0 ≤ r) : r < (cs.length : Int) := by
  unfold leadsB at h
  have h1 : ¬ r = -1 := by omega
  simp only [h1, decide_false, Bool.false_or, Bool.and_eq_true] at h
  have := usedAt_lt h.2
  omega
structure Valid (h : LH) : Prop where
  le : h.cells.length ≤ 40
  roots4 : h.roots.length = 4
  cells : ∀ (n : Nat) (hn : n < h.cells.length), okP h.cells h.cells[n]
  roots : ∀ r ∈ h.roots, leadsB h.cells r = true
theorem valid_iff {h : LH} : validB h = true ↔ Valid h := by
  unfold validB
  rw [decide_eq_true_eq]
  constructor
  · rintro ⟨h1, h2, h3, h4⟩
    refine ⟨h1, h2, fun n hn => ?_, fun r hr => List.all_eq_true.1 h4 r hr⟩
    have := List.all_eq_true.1 h3 h.cells[n] (List.getElem_mem hn)
    simpa [okB] using this
  · rintro ⟨h1, h2, h3, h4⟩
    refine ⟨h1, h2, List.all_eq_true.2 fun c hc => ?_, List.all_eq_true.2 h4⟩
    obtain ⟨n, hn, rfl⟩ := List.getElem_of_mem hc
    simpa [okB] using h3 n hn
theorem Valid.refs3 {h : LH} (v : Valid h) {n : Nat} (hn : n < h.cells.length) : h.cells[n].refs.length ≤ 3 := by
  have := v.cells n hn
  unfold okP at this
  cases hu : h.cells[n].used with
  | true => exact (this.1 hu).2.2.2
  | false => have := (this.2 hu).2; omega
theorem Valid.refs {h : LH} (v : Valid h) {n : Nat} (hn : n < h.cells.length) : ∀ r ∈ h.cells[n].refs, leadsB h.cells r = true := fun r hr => by
  have := v.cells n hn
  unfold okP at this
  cases hu : h.cells[n].used with
  | true => exact List.all_eq_true.1 (this.1 hu).1 r hr
  | false =>
    have h0 := (this.2 hu).2
    rw [List.eq_nil_of_length_eq_zero h0] at hr
    cases hr
theorem Valid.leads {h : LH} (v : Valid h) : Leads h.cells h.roots nn := by
  refine ⟨fun x hx ho => ⟨nn_pos ho, leadsB_lt (v.roots x hx) (nn_pos ho)⟩, fun m x hx ho => ⟨nn_pos ho, ?_⟩⟩
  by_cases hm : m < h.cells.length
  · rw [refsOf_at hm] at hx
    exact leadsB_lt (v.refs hm x hx) (nn_pos ho)
  · simp [refsOf, List.getElem?_eq_none (by omega : h.cells.length ≤ m)] at hx
theorem bfs_bnd {cs : List LC} {fr : List Int} (hl : Leads cs fr nn) : ∀ (f i : Nat) (s : List Int), Bnd cs.length s → Bnd cs.length (bfs cs nn f i s)
  | 0, _, _, h => h
  | f + 1, i, s, h => by
    unfold bfs
    split
    · exact h
    · exact bfs_bnd hl f _ _ (h.meet (fun x hx => hl.2 _ x hx))
theorem orderL_bnd {cs : List LC} {fr : List Int} (hl : Leads cs fr nn) : Bnd cs.length (orderL cs fr nn) := bfs_bnd hl _ _ _ ((Bnd.nil _).meet hl.1)
/-- How many references the cells of s have. -/
def rsumO (cs : List LC) (s : List Int) : Nat := (s.map fun x => (refsOf cs x.toNat).length).sum
theorem rsumO_succ {cs : List LC} {s : List Int} {k n : Nat} (hk : k < s.length) (hn : s[k] = (n : Int)) (hnN : n < cs.length) : rsumO cs (s.take (k + 1)) = rsumO cs (s.take k) + cs[n].refs.length := by
  unfold rsumO
  rw [List.take_succ_eq_append_getElem hk, List.map_append, List.sum_append, hn]
  simp [refsOf_at hnN]
def stepsV (h : LH) : Int × Int := if validB h = true then (((orderL h.cells h.roots nn).length : Int), ((4 + rsumO h.cells (orderL h.cells h.roots nn) : Nat) : Int)) else (-1, -1)
theorem stepsV_t {h : LH} (hv : validB h = true) : stepsV h = (((orderL h.cells h.roots nn).length : Int), ((4 + rsumO h.cells (orderL h.cells h.roots nn) : Nat) : Int)) := if_pos hv
theorem stepsV_f {h : LH} (hv : validB h = false) : stepsV h = (-1, -1) := if_neg (by simp [hv])
end Go.Proofs.Ytjmfdmndchoplaa
