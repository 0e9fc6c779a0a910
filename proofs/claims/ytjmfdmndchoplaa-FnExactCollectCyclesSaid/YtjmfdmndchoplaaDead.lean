/-
  Cells that are lost: those that a suspect reaches, and that nothing from outside holds.
  Conditions: none.
-/
import Derived.Test.YtjmfdmndchoplaaTrial
namespace Go.Proofs.Ytjmfdmndchoplaa
open Go

def fromM (h : LH) (n : Nat) : List Bool := mB h.cells.length (orderL h.cells [(n : Int)] nn)
theorem fromM_len (h : LH) (n : Nat) : (fromM h n).length = h.cells.length := mB_len _ _
/-- A cell of the set is held from outside. -/
def heldP (h : LH) (n k : Nat) : Bool := inB (fromM h n) k && decide (0 < (((refsAll h (inB (fromM h n))).count (k : Int) : Nat) : Int))
def heldL (h : LH) (n : Nat) : List Int := selL h.cells.length (heldP h n)
def deadP (h : LH) (n k : Nat) : Bool := inB (fromM h n) k && !decide ((k : Int) ∈ orderL h.cells (heldL h n) nn)
def deadL (h : LH) (n : Nat) : List Bool := (List.range h.cells.length).map (deadP h n)
theorem deadL_len (h : LH) (n : Nat) : (deadL h n).length = h.cells.length := by simp [deadL]
def deadV (h : LH) (x : Int) : List Bool := if usedR h x = true then deadL h x.toNat else []
theorem deadV_t {h : LH} {n : Nat} (hu : usedR h (n : Int) = true) : deadV h (n : Int) = deadL h n := if_pos hu
theorem deadV_f {h : LH} {x : Int} (hu : usedR h x = false) : deadV h x = [] := if_neg (by simp [hu])
theorem deadV_len (h : LH) (x : Int) : (deadV h x).length ≤ h.cells.length := by
  unfold deadV
  split
  · rw [deadL_len]; exact Nat.le_refl _
  · simp
theorem fromM_get {h : LH} {n i : Nat} (hi : i < h.cells.length) : (fromM h n)[i]? = some (decide ((i : Int) ∈ orderL h.cells [(n : Int)] nn)) := mB_get hi
theorem fromM_set {h : LH} {n m u : Nat} (va : Valid h) (hnN : n < h.cells.length) (hun : usedAt h.cells n = true) (hm : m < 2 ^ 64) (hu : SetOf u (usedL h.cells)) (hr : ∀ i, m.testBit i = true ↔ Rch h.cells [(n : Int)] (hasB u) i) : SetOf m (fromM h n) :=
  ⟨hm, fun i => by
    rw [Bool.eq_iff_iff, hr, rch_used (leadsU_one va hun) hu]
    by_cases hi : i < h.cells.length
    · rw [fromM_get hi, ← orderL_mem (leads_one va hnN)]
      simp
    · rw [List.getElem?_eq_none (by rw [fromM_len]; omega)]
      constructor
      · intro hh
        exact absurd (hh.lt (leads_one va hnN)) hi
      · intro hh
        cases hh⟩
theorem from_iff {h : LH} {n m : Nat} (va : Valid h) (hnN : n < h.cells.length) (hm : SetOf m (fromM h n)) (i : Nat) : m.testBit i = true ↔ Rch h.cells [(n : Int)] nn i := by
  rw [hm.2]
  by_cases hi : i < h.cells.length
  · rw [fromM_get hi, ← orderL_mem (leads_one va hnN)]
    simp
  · rw [List.getElem?_eq_none (by rw [fromM_len]; omega)]
    constructor
    · intro hh
      cases hh
    · intro hh
      exact absurd (hh.lt (leads_one va hnN)) hi
theorem from_lt {h : LH} {n m : Nat} (hm : SetOf m (fromM h n)) : ∀ i, m.testBit i = true → i < h.cells.length := fun i hi => by
  rw [hm.2] at hi
  by_cases hl : i < h.cells.length
  · exact hl
  · rw [List.getElem?_eq_none (by rw [fromM_len]; omega)] at hi
    cases hi
theorem heldL_leads {h : LH} (va : Valid h) (n : Nat) : Leads h.cells (heldL h n) nn := ⟨fun x hx _ => by
  obtain ⟨k, rfl, hk, _⟩ := selL_mem.1 hx
  omega, va.leads.2⟩
theorem Rch.good {cs : List LC} {fr : List Int} {ok : Int → Bool} {n : Nat} (h : Rch cs fr ok n) : ok (n : Int) = true := by
  cases h with
  | root _ h2 => exact h2
  | step _ _ h2 => exact h2
theorem held_rch {h : LH} {n m : Nat} (va : Valid h) (hnN : n < h.cells.length) (hm : SetOf m (fromM h n)) {i : Nat} : Rch h.cells (heldL h n) (hasB m) i ↔ Rch h.cells (heldL h n) nn i := by
  constructor
  · intro hh
    induction hh with
    | root h1 h2 => exact .root h1 (by simp [nn])
    | step _ h1 h2 ih => exact .step ih h1 (by simp [nn])
  · intro hh
    induction hh with
    | root h1 h2 =>
      refine .root h1 ?_
      obtain ⟨k, hk, _, hp⟩ := selL_mem.1 h1
      have hk' := Int.ofNat.inj hk
      subst hk'
      unfold heldP at hp
      rw [Bool.and_eq_true] at hp
      rw [hasB_nat, ← hp.1]
      exact congrFun (set_in hm) _
    | step _ h1 h2 ih =>
      refine .step ih h1 ?_
      have hg := ih.good
      rw [hasB_nat] at hg ⊢
      exact (from_iff va hnN hm _).2 (.step ((from_iff va hnN hm _).1 hg) h1 (by simp [nn]))
theorem dead_bits {h : LH} {n m m2 : Nat} (va : Valid h) (hnN : n < h.cells.length) (hm : SetOf m (fromM h n)) (h2 : m2 < 2 ^ 64) (hr : ∀ i, m2.testBit i = true ↔ Rch h.cells (heldL h n) (hasB m) i) (i : Nat) : (lessN m m2).testBit i = deadP h n i := by
  rw [lessN_bit hm.1 h2, congrFun (set_in hm) i]
  unfold deadP
  have : m2.testBit i = decide ((i : Int) ∈ orderL h.cells (heldL h n) nn) := by
    rw [Bool.eq_iff_iff, hr, held_rch va hnN hm, decide_eq_true_eq, orderL_mem (heldL_leads va n)]
  rw [this]
theorem dead_list {h : LH} {n d : Nat} (hd : ∀ i, d.testBit i = deadP h n i) : listB d h.cells.length = deadL h n := by
  unfold listB deadL
  apply List.map_congr_left
  intro i _
  exact hd i
theorem from_insU {h : LH} {n : Nat} (va : Valid h) (hnN : n < h.cells.length) (hun : usedAt h.cells n = true) : insU h.cells (fromM h n) h.cells.length = true := by
  unfold insU
  rw [List.all_eq_true]
  intro i hi
  have hi' : i < h.cells.length := by simpa using hi
  cases hb : inB (fromM h n) i with
  | false => rfl
  | true =>
    have h1 : (i : Int) ∈ orderL h.cells [(n : Int)] nn := by
      unfold inB at hb
      rw [fromM_get hi'] at hb
      simpa using hb
    have h2 := (orderL_mem (leads_one va hnN)).1 h1
    have hl := leadsU_one va hun
    have h3 : usedAt h.cells i = true := by
      cases h2 with
      | root h4 _ => exact leadsB_used (hl.1 _ h4)
      | step _ h4 _ => exact leadsB_used (hl.2 _ _ h4)
    simp [h3]
theorem from_ok {h : LH} {n : Nat} (hv : validB h = true) (hnN : n < h.cells.length) (hun : usedAt h.cells n = true) : triOk h (fromM h n) = true :=
  triOk_t hv (fromM_len h n) (from_insU (valid_iff.1 hv) hnN hun)
theorem heldP_tri (h : LH) (n k : Nat) : heldP h n k = decide (0 < tri1 h (fromM h n) k) := by
  unfold heldP tri1
  cases inB (fromM h n) k <;> simp
theorem from_tri {h : LH} {n k : Nat} (hv : validB h = true) (hnN : n < h.cells.length) (hun : usedAt h.cells n = true) (hu : usedR h (n : Int) = true) (hk : k < (triV h (fromV h (n : Int))).length) : (triV h (fromV h (n : Int)))[k] = tri1 h (fromM h n) k := by
  have h1 : (triV h (fromV h (n : Int)))[k]? = some (tri1 h (fromM h n) k) := by
    have e : triV h (fromV h (n : Int)) = triL h (fromM h n) h.cells.length := by
      rw [fromV_t hu]
      exact triV_t (from_ok hv hnN hun)
    rw [e, triL_len] at hk
    rw [e]
    simp [triL, hk]
  rw [List.getElem?_eq_getElem hk] at h1
  exact Option.some.inj h1
theorem from_tri_len {h : LH} {n : Nat} (hv : validB h = true) (hnN : n < h.cells.length) (hun : usedAt h.cells n = true) (hu : usedR h (n : Int) = true) : (triV h (fromV h (n : Int))).length = h.cells.length := by
  rw [fromV_t hu]
  exact (congrArg List.length (triV_t (from_ok hv hnN hun))).trans (triL_len _ _ _)
theorem fromV_pos {h : LH} {x : Int} (hp : 0 < (fromV h x).length) : usedR h x = true := by
  cases hu : usedR h x with
  | true => rfl
  | false => rw [fromV_f hu] at hp; simp at hp
theorem fromV_n {h : LH} {n : Nat} (hu : usedR h (n : Int) = true) : fromV h (n : Int) = fromM h n := fromV_t hu
theorem deadV_none {h : LH} {x : Int} (hp : (fromV h x).length = 0) : deadV h x = [] := by
  cases hu : usedR h x with
  | false => exact deadV_f hu
  | true =>
    obtain ⟨n, rfl, hn, _, _⟩ := usedR_lt hu
    rw [fromV_n hu, fromM_len] at hp
    omega
/-- The first k cells are as they are to be. -/
def deadM (h : LH) (n k : Nat) : List Bool := (List.range h.cells.length).map fun i => if i < k then deadP h n i else inB (fromM h n) i
theorem deadM_len (h : LH) (n k : Nat) : (deadM h n k).length = h.cells.length := by simp [deadM]
theorem deadM_get {h : LH} {n k i : Nat} (hi : i < h.cells.length) : (deadM h n k)[i]? = some (if i < k then deadP h n i else inB (fromM h n) i) := by simp [deadM, hi]
theorem deadM_zero (h : LH) (n : Nat) : deadM h n 0 = fromM h n := by
  apply List.ext_getElem?
  intro i
  by_cases hi : i < h.cells.length
  · rw [deadM_get hi, if_neg (by omega), inB_at (by rw [fromM_len]; exact hi), List.getElem?_eq_getElem (by rw [fromM_len]; exact hi)]
  · rw [List.getElem?_eq_none (by rw [deadM_len]; omega), List.getElem?_eq_none (by rw [fromM_len]; omega)]
theorem deadM_all (h : LH) (n : Nat) : deadM h n h.cells.length = deadL h n := by
  unfold deadM deadL
  apply List.map_congr_left
  intro i hi
  rw [if_pos (by simpa using hi)]
theorem deadM_split {h : LH} {n k : Nat} (hk : k < h.cells.length) : bools (deadM h n k) = (bools (deadM h n k)).take k ++ [.bool (inB (fromM h n) k)] ++ (bools (deadM h n k)).drop (k + 1) :=
  split_at (bools_get (by rw [deadM_get hk, if_neg (by omega)]))
theorem deadM_set {h : LH} {n k : Nat} (hk : k < h.cells.length) : (bools (deadM h n k)).take k ++ [.bool (deadP h n k)] ++ (bools (deadM h n k)).drop (k + 1) = bools (deadM h n (k + 1)) := by
  apply List.ext_getElem?
  intro i
  have hl : ((bools (deadM h n k)).take k).length = k := by rw [List.length_take, bools_len, deadM_len]; omega
  by_cases h1 : i < k
  · rw [List.append_assoc, List.getElem?_append_left (by omega), List.getElem?_take, if_pos h1, bools_get (deadM_get (by omega)), bools_get (deadM_get (by omega)), if_pos h1, if_pos (by omega)]
  · by_cases h2 : i = k
    · subst h2
      rw [List.append_assoc, List.getElem?_append_right (by omega), hl, Nat.sub_self, bools_get (deadM_get hk), if_pos (by omega)]
      rfl
    · rw [List.getElem?_append_right (by rw [List.length_append]; simp; omega), List.getElem?_drop, List.length_append, hl]
      simp only [List.length_cons, List.length_nil]
      rw [show k + 1 + (i - (k + (0 + 1))) = i by omega]
      by_cases h3 : i < h.cells.length
      · rw [bools_get (deadM_get h3), bools_get (deadM_get h3), if_neg h1, if_neg (by omega)]
      · rw [List.getElem?_eq_none (by rw [bools_len, deadM_len]; omega), List.getElem?_eq_none (by rw [bools_len, deadM_len]; omega)]
end Go.Proofs.Ytjmfdmndchoplaa
