/-
  References from outside of a set of cells.
  Conditions: none.
-/
import Derived.Test.YtjmfdmndchoplaaView
namespace Go.Proofs.Ytjmfdmndchoplaa
open Go

/-- The place says yes. -/
def inB (bs : List Bool) (i : Nat) : Bool := bs[i]? == some true
theorem inB_at {bs : List Bool} {k : Nat} (h : k < bs.length) : inB bs k = bs[k] := by
  unfold inB
  rw [List.getElem?_eq_getElem h]
  cases bs[k] <;> rfl
/-- The first k cells that are in the set are used. -/
def insU (cs : List LC) (bs : List Bool) (k : Nat) : Bool := (List.range k).all fun i => !inB bs i || usedAt cs i
theorem insU_succ {cs : List LC} {bs : List Bool} {k : Nat} : insU cs bs (k + 1) = (insU cs bs k && (!inB bs k || usedAt cs k)) := by simp [insU, List.range_succ]
theorem insU_bad {cs : List LC} {bs : List Bool} {k N : Nat} (hk : k < N) (h1 : inB bs k = true) (h2 : usedAt cs k = false) : insU cs bs N = false := by
  unfold insU
  rw [List.all_eq_false]
  exact ⟨k, by simp [hk], by simp [h1, h2]⟩
/-- The number of a cell. -/
def tri1 (h : LH) (bs : List Bool) (k : Nat) : Int := if inB bs k = true then (((refsAll h (inB bs)).count (k : Int) : Nat) : Int) else -1
def triL (h : LH) (bs : List Bool) (k : Nat) : List Int := (List.range k).map (tri1 h bs)
theorem triL_succ (h : LH) (bs : List Bool) (k : Nat) : triL h bs (k + 1) = triL h bs k ++ [tri1 h bs k] := by simp [triL, List.range_succ]
theorem triL_len (h : LH) (bs : List Bool) (k : Nat) : (triL h bs k).length = k := by simp [triL]
def triOk (h : LH) (bs : List Bool) : Bool := validB h && (decide (bs.length = h.cells.length) && insU h.cells bs h.cells.length)
def triV (h : LH) (bs : List Bool) : List Int := if triOk h bs = true then triL h bs h.cells.length else []
theorem triV_t {h : LH} {bs : List Bool} (ho : triOk h bs = true) : triV h bs = triL h bs h.cells.length := if_pos ho
theorem triV_f {h : LH} {bs : List Bool} (ho : triOk h bs = false) : triV h bs = [] := if_neg (by simp [ho])
theorem triV_len (h : LH) (bs : List Bool) : (triV h bs).length ≤ h.cells.length := by
  unfold triV
  split
  · rw [triL_len]; exact Nat.le_refl _
  · simp
theorem triOk_f1 {h : LH} {bs : List Bool} (hv : validB h = false) : triOk h bs = false := by simp [triOk, hv]
theorem triOk_f2 {h : LH} {bs : List Bool} (hv : ¬ bs.length = h.cells.length) : triOk h bs = false := by simp [triOk, hv]
theorem triOk_f3 {h : LH} {bs : List Bool} (hv : insU h.cells bs h.cells.length = false) : triOk h bs = false := by simp [triOk, hv]
theorem triOk_t {h : LH} {bs : List Bool} (h1 : validB h = true) (h2 : bs.length = h.cells.length) (h3 : insU h.cells bs h.cells.length = true) : triOk h bs = true := by simp [triOk, h1, h2, h3]
theorem set_in {m : Nat} {bs : List Bool} (h : SetOf m bs) : (fun i => m.testBit i) = inB bs := by
  funext i
  rw [h.2]
  rfl
theorem less_zero {m u : Nat} {cs : List LC} {bs : List Bool} (hm : SetOf m bs) (hu : SetOf u (usedL cs)) (hl : bs.length = cs.length) : ((lessN m u : Nat) : Int) = 0 ↔ insU cs bs cs.length = true := by
  have h1 : ((lessN m u : Nat) : Int) = 0 ↔ lessN m u = 0 := by omega
  rw [h1]
  unfold insU
  rw [List.all_eq_true]
  constructor
  · intro h0 i hi
    have := lessN_bit (i := i) hm.1 hu.1
    rw [h0, Nat.zero_testBit, used_set hu, hm.2] at this
    unfold inB
    cases hb : (bs[i]? == some true) with
    | false => rfl
    | true =>
      rw [hb] at this
      simp at this
      simp [this]
  · intro h0
    apply Nat.eq_of_testBit_eq
    intro i
    rw [lessN_bit hm.1 hu.1, Nat.zero_testBit, used_set hu, hm.2]
    by_cases hi : i < cs.length
    · have := h0 i (by simp [hi])
      unfold inB at this
      cases hb : (bs[i]? == some true) with
      | false => rfl
      | true =>
        rw [hb] at this
        simp at this
        simp [this]
    · rw [List.getElem?_eq_none (by omega)]
      rfl
theorem less_bad {m u : Nat} {cs : List LC} {bs : List Bool} (hm : SetOf m bs) (hu : SetOf u (usedL cs)) (hl : bs.length = cs.length) (h : ¬ ((lessN m u : Nat) : Int) = 0) : insU cs bs cs.length = false := by
  cases hh : insU cs bs cs.length with
  | false => rfl
  | true => exact absurd ((less_zero hm hu hl).2 hh) h
/-- The first k cells are as they are to be, the others are counts. -/
def triM (h : LH) (bs : List Bool) (k : Nat) : List Int := (List.range h.cells.length).map fun i => if i < k then tri1 h bs i else (((refsAll h (inB bs)).count (i : Int) : Nat) : Int)
theorem triM_len (h : LH) (bs : List Bool) (k : Nat) : (triM h bs k).length = h.cells.length := by simp [triM]
theorem triM_zero (h : LH) (bs : List Bool) : triM h bs 0 = cntL h.cells.length (refsAll h (inB bs)) := by simp [triM, cntL]
theorem triM_all (h : LH) (bs : List Bool) : triM h bs h.cells.length = triL h bs h.cells.length := by
  unfold triM triL
  apply List.map_congr_left
  intro i hi
  rw [if_pos (by simpa using hi)]
theorem triM_get {h : LH} {bs : List Bool} {k i : Nat} (hi : i < h.cells.length) : (triM h bs k)[i]? = some (if i < k then tri1 h bs i else (((refsAll h (inB bs)).count (i : Int) : Nat) : Int)) := by simp [triM, hi]
theorem triM_in {h : LH} {bs : List Bool} {k : Nat} (hb : inB bs k = true) : triM h bs (k + 1) = triM h bs k := by
  unfold triM
  apply List.map_congr_left
  intro i _
  by_cases h1 : i < k
  · rw [if_pos h1, if_pos (by omega)]
  · by_cases h2 : i = k
    · subst h2
      rw [if_pos (by omega), if_neg h1]
      simp [tri1, hb]
    · rw [if_neg h1, if_neg (by omega)]
theorem triM_out {h : LH} {bs : List Bool} {k : Nat} (hk : k < h.cells.length) (hb : inB bs k = false) : (ints (triM h bs k)).take k ++ [.int .i64 (-1)] ++ (ints (triM h bs k)).drop (k + 1) = ints (triM h bs (k + 1)) := by
  apply List.ext_getElem?
  intro i
  have hl : ((ints (triM h bs k)).take k).length = k := by rw [List.length_take, ints_len, triM_len]; omega
  by_cases h1 : i < k
  · rw [List.append_assoc, List.getElem?_append_left (by omega), List.getElem?_take, if_pos h1, ints_get (triM_get (by omega)), ints_get (triM_get (by omega)), if_pos h1, if_pos (by omega)]
  · by_cases h2 : i = k
    · subst h2
      rw [List.append_assoc, List.getElem?_append_right (by omega), hl, Nat.sub_self, ints_get (triM_get hk), if_pos (by omega)]
      simp [tri1, hb]
    · rw [List.getElem?_append_right (by rw [List.length_append]; simp; omega), List.getElem?_drop, List.length_append, hl]
      simp only [List.length_cons, List.length_nil]
      rw [show k + 1 + (i - (k + (0 + 1))) = i by omega]
      by_cases h3 : i < h.cells.length
      · rw [ints_get (triM_get h3), ints_get (triM_get h3), if_neg h1, if_neg (by omega)]
      · rw [List.getElem?_eq_none (by rw [ints_len, triM_len]; omega), List.getElem?_eq_none (by rw [ints_len, triM_len]; omega)]
theorem triM_split {h : LH} {bs : List Bool} {k : Nat} (hk : k < h.cells.length) : ints (triM h bs k) = (ints (triM h bs k)).take k ++ [.int .i64 (((refsAll h (inB bs)).count (k : Int) : Nat) : Int)] ++ (ints (triM h bs k)).drop (k + 1) :=
  split_at (ints_get (by rw [triM_get hk, if_neg (by omega)]))
theorem count_snoc (k : Nat) (xs : List Int) (x : Int) : (xs ++ [x]).count (k : Int) = xs.count (k : Int) + (if x = (k : Int) then 1 else 0) := by
  rw [List.count_append]
  by_cases h : x = (k : Int) <;> simp [h]
end Go.Proofs.Ytjmfdmndchoplaa
