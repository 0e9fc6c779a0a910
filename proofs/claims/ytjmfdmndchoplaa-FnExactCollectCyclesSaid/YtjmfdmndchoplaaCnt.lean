/-
  How many references lead to each cell.
  Conditions: none.
-/
import Derived.Test.YtjmfdmndchoplaaSteps
namespace Go.Proofs.Ytjmfdmndchoplaa
open Go

/-- How often each of the first N numbers is in xs. -/
def cntL (N : Nat) (xs : List Int) : List Int := (List.range N).map fun (i : Nat) => ((xs.count (i : Int) : Nat) : Int)
theorem cntL_len (N : Nat) (xs : List Int) : (cntL N xs).length = N := by simp [cntL]
theorem cntL_get {N n : Nat} {xs : List Int} (h : n < N) : (cntL N xs)[n]? = some ((xs.count (n : Int) : Nat) : Int) := by simp [cntL, h]
theorem cntL_at {N n : Nat} {xs : List Int} (h : n < (cntL N xs).length) : (cntL N xs)[n] = ((xs.count (n : Int) : Nat) : Int) := by simp [cntL]
theorem cntL_zero (N : Nat) : zeros [.int .i64 0] N = ints (cntL N []) := by
  apply List.ext_getElem?
  intro i
  by_cases hi : i < N
  · rw [zeros_get _ (by decide) N i (by simpa using hi), ints_get (cntL_get hi)]
    simp [Nat.mod_one]
  · rw [List.getElem?_eq_none (by rw [zeros_len]; simp; omega), List.getElem?_eq_none (by rw [ints_len, cntL_len]; omega)]
theorem cntL_split {N n : Nat} {xs : List Int} (h : n < N) : ints (cntL N xs) = (ints (cntL N xs)).take n ++ [.int .i64 ((xs.count (n : Int) : Nat) : Int)] ++ (ints (cntL N xs)).drop (n + 1) := split_at (ints_get (cntL_get h))
theorem cntL_set {N n : Nat} {xs : List Int} (h : n < N) : (ints (cntL N xs)).take n ++ [.int .i64 (((xs.count (n : Int) + 1 : Nat)) : Int)] ++ (ints (cntL N xs)).drop (n + 1) = ints (cntL N (xs ++ [(n : Int)])) := by
  apply List.ext_getElem?
  intro i
  have hl : ((ints (cntL N xs)).take n).length = n := by rw [List.length_take, ints_len, cntL_len]; omega
  by_cases h1 : i < n
  · rw [List.append_assoc, List.getElem?_append_left (by omega), List.getElem?_take, if_pos h1, ints_get (cntL_get (by omega)), ints_get (cntL_get (by omega)), List.count_append]
    have : ¬ ((n : Int) = (i : Int)) := by omega
    simp [this]
  · by_cases h2 : i = n
    · subst h2
      rw [List.append_assoc, List.getElem?_append_right (by omega), hl, Nat.sub_self, ints_get (cntL_get h), List.count_append]
      simp
    · rw [List.getElem?_append_right (by rw [List.length_append]; simp; omega), List.getElem?_drop, List.length_append, hl]
      simp only [List.length_cons, List.length_nil]
      rw [show n + 1 + (i - (n + (0 + 1))) = i by omega]
      by_cases h3 : i < N
      · rw [ints_get (cntL_get h3), ints_get (cntL_get h3), List.count_append]
        have : ¬ ((n : Int) = (i : Int)) := by omega
        simp [this]
      · rw [List.getElem?_eq_none (by rw [ints_len, cntL_len]; omega), List.getElem?_eq_none (by rw [ints_len, cntL_len]; omega)]
theorem cntL_neg {N : Nat} {xs : List Int} {x : Int} (h : ¬ 0 ≤ x) : cntL N (xs ++ [x]) = cntL N xs := by
  unfold cntL
  apply List.map_congr_left
  intro i _
  rw [List.count_append]
  have : ¬ (x = (i : Int)) := by omega
  simp [this]
theorem count_le (x : Int) (xs : List Int) : xs.count x ≤ xs.length := List.count_le_length
/-- The references of the first k cells, but those that sk leaves out. -/
def refsUp (cs : List LC) (sk : Nat → Bool) (k : Nat) : List Int := (List.range k).flatMap fun i => if sk i = true then [] else refsOf cs i
theorem refsUp_succ {cs : List LC} {sk : Nat → Bool} {k : Nat} (hk : k < cs.length) (h : sk k = false) : refsUp cs sk (k + 1) = refsUp cs sk k ++ cs[k].refs := by
  unfold refsUp
  rw [List.range_succ, List.flatMap_append]
  simp [h, refsOf_at hk]
theorem refsUp_skip {cs : List LC} {sk : Nat → Bool} {k : Nat} (h : sk k = true) : refsUp cs sk (k + 1) = refsUp cs sk k := by
  unfold refsUp
  rw [List.range_succ, List.flatMap_append]
  simp [h]
theorem refsUp_le {cs : List LC} {sk : Nat → Bool} : ∀ {k : Nat}, k ≤ cs.length → (refsUp cs sk k).length ≤ rsum cs k
  | 0, _ => by simp [refsUp]
  | k + 1, h => by
    have ih := refsUp_le (cs := cs) (sk := sk) (k := k) (by omega)
    cases hs : sk k with
    | true =>
      rw [refsUp_skip hs, rsum_succ (by omega)]
      omega
    | false =>
      rw [refsUp_succ (by omega) hs, rsum_succ (by omega), List.length_append]
      omega
/-- The references of the roots and of the cells, but those that sk leaves out. -/
def refsAll (h : LH) (sk : Nat → Bool) : List Int := h.roots ++ refsUp h.cells sk h.cells.length
def countsV (h : LH) : List Int := if validB h = true then cntL h.cells.length (refsAll h fun _ => false) else []
theorem countsV_t {h : LH} (hv : validB h = true) : countsV h = cntL h.cells.length (refsAll h fun _ => false) := if_pos hv
theorem countsV_f {h : LH} (hv : validB h = false) : countsV h = [] := if_neg (by simp [hv])
theorem countsV_len (h : LH) : (countsV h).length ≤ h.cells.length := by
  unfold countsV
  split
  · rw [cntL_len]; exact Nat.le_refl _
  · simp
end Go.Proofs.Ytjmfdmndchoplaa
