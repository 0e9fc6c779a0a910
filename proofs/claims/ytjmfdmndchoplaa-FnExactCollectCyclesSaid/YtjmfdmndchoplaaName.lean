/-
  New numbers of cells; what a program can see.
  Conditions: none.
-/
import Derived.Test.YtjmfdmndchoplaaSteps
namespace Go.Proofs.Ytjmfdmndchoplaa
open Go

/-- The number of x in an order, or -1. -/
def nameIn (o : List Int) (x : Int) : Int := if x ∈ o then ((o.idxOf x : Nat) : Int) else -1
theorem nameIn_no {o : List Int} {x : Int} (h : x ∉ o) : nameIn o x = -1 := if_neg h
theorem nameIn_at {o : List Int} {x : Int} {k : Nat} (hk : k < o.length) (h1 : x ∉ o.take k) (h2 : o[k] = x) : nameIn o x = (k : Int) := by
  have hm : x ∈ o := by rw [← h2]; exact List.getElem_mem hk
  unfold nameIn
  rw [if_pos hm]
  have e : o = o.take k ++ o.drop k := (List.take_append_drop k o).symm
  have : o.idxOf x = k := by
    rw [e, List.idxOf_append, if_neg h1, List.drop_eq_getElem_cons hk, h2, List.idxOf_cons_self, List.length_take]
    omega
  rw [this]
theorem nameIn_snoc {o : List Int} {c : Int} (hc : c ∉ o) (x : Int) : nameIn (o ++ [c]) x = if x = c then (o.length : Int) else nameIn o x := by
  by_cases h : x = c
  · subst h
    rw [if_pos rfl]
    exact nameIn_at (by simp) (by simpa using hc) (by simp)
  · rw [if_neg h]
    unfold nameIn
    by_cases hx : x ∈ o
    · rw [if_pos hx, if_pos (by simp [hx]), List.idxOf_append, if_pos hx]
    · rw [if_neg hx, if_neg (by simp [hx, h])]
theorem nameIn_lt {o : List Int} (x : Int) : nameIn o x < (o.length : Int) := by
  unfold nameIn
  split
  · rename_i h
    have := List.idxOf_lt_length_of_mem h
    omega
  · omega
theorem nameIn_ge {o : List Int} (x : Int) : -1 ≤ nameIn o x := by
  unfold nameIn
  split <;> omega
theorem notMem_take {o : List Int} {x : Int} {k : Nat} (hk : k < o.length) (h1 : x ∉ o.take k) (h2 : ¬ o[k] = x) : x ∉ o.take (k + 1) := by
  rw [List.take_succ_eq_append_getElem hk]
  simp only [List.mem_append, List.mem_singleton, not_or]
  exact ⟨h1, fun e => h2 e.symm⟩
/-- The numbers of the first N cells. -/
def namesL (N : Nat) (o : List Int) : List Int := (List.range N).map fun (i : Nat) => nameIn o (i : Int)
theorem namesL_len (N : Nat) (o : List Int) : (namesL N o).length = N := by simp [namesL]
theorem namesL_get {N n : Nat} {o : List Int} (h : n < N) : (namesL N o)[n]? = some (nameIn o (n : Int)) := by simp [namesL, h]
theorem namesL_at {N n : Nat} {o : List Int} (h : n < (namesL N o).length) : (namesL N o)[n] = nameIn o (n : Int) := by simp [namesL]
theorem namesL_succ (N : Nat) (o : List Int) : namesL (N + 1) o = namesL N o ++ [nameIn o (N : Int)] := by simp [namesL, List.range_succ]
theorem namesL_nil (N : Nat) : namesL N [] = List.replicate N (-1) := by
  apply List.ext_getElem?
  intro i
  by_cases hi : i < N
  · rw [namesL_get hi, nameIn_no (by simp)]
    simp [hi]
  · rw [List.getElem?_eq_none (by rw [namesL_len]; omega), List.getElem?_eq_none (by simp; omega)]
theorem namesL_split {N n : Nat} {o : List Int} (h : n < N) : ints (namesL N o) = (ints (namesL N o)).take n ++ [.int .i64 (nameIn o (n : Int))] ++ (ints (namesL N o)).drop (n + 1) := split_at (ints_get (namesL_get h))
theorem namesL_set {N n : Nat} {o : List Int} (h : n < N) (hn : (n : Int) ∉ o) : (ints (namesL N o)).take n ++ [.int .i64 (o.length : Int)] ++ (ints (namesL N o)).drop (n + 1) = ints (namesL N (o ++ [(n : Int)])) := by
  apply List.ext_getElem?
  intro i
  have hl : ((ints (namesL N o)).take n).length = n := by rw [List.length_take, ints_len, namesL_len]; omega
  by_cases h1 : i < n
  · rw [List.append_assoc, List.getElem?_append_left (by omega), List.getElem?_take, if_pos h1, ints_get (namesL_get (by omega)), ints_get (namesL_get (by omega)), nameIn_snoc hn, if_neg (by omega)]
  · by_cases h2 : i = n
    · subst h2
      rw [List.append_assoc, List.getElem?_append_right (by omega), hl, Nat.sub_self, ints_get (namesL_get h), nameIn_snoc hn, if_pos rfl]
      simp
    · rw [List.getElem?_append_right (by rw [List.length_append]; simp; omega), List.getElem?_drop, List.length_append, hl]
      simp only [List.length_cons, List.length_nil]
      rw [show n + 1 + (i - (n + (0 + 1))) = i by omega]
      by_cases h3 : i < N
      · rw [ints_get (namesL_get h3), ints_get (namesL_get h3), nameIn_snoc hn, if_neg (by omega)]
      · rw [List.getElem?_eq_none (by rw [ints_len, namesL_len]; omega), List.getElem?_eq_none (by rw [ints_len, namesL_len]; omega)]
/-- A row that is filled with one value. -/
theorem fill_step {N k : Nat} {v z : Value} (_h : k < N) : List.replicate k v ++ [v] ++ zeros [z] (N - k - 1) = List.replicate (k + 1) v ++ zeros [z] (N - (k + 1)) := by
  rw [Nat.sub_sub, List.replicate_succ']
theorem ints_rep (n : Nat) (x : Int) : List.replicate n (Value.int .i64 x) = ints (List.replicate n x) := by simp [ints]
theorem take_notMem {N k n : Nat} {o : List Int} (h : Bnd N o) (hk : k < o.length) (hn : o[k] = (n : Int)) : (n : Int) ∉ o.take k := by
  intro hm
  have h1 := h.1
  rw [← List.take_append_drop k o, List.drop_eq_getElem_cons hk, hn, List.nodup_append] at h1
  exact h1.2.2 _ hm _ (by simp) rfl
/-- The numbers that p lets by, in ascending order. -/
def selL (N : Nat) (p : Nat → Bool) : List Int := ((List.range N).filter p).map fun (i : Nat) => (i : Int)
theorem selL_yes {k : Nat} {p : Nat → Bool} (h : p k = true) : selL (k + 1) p = selL k p ++ [(k : Int)] := by simp [selL, List.range_succ, List.filter_append, h]
theorem selL_no {k : Nat} {p : Nat → Bool} (h : p k = false) : selL (k + 1) p = selL k p := by simp [selL, List.range_succ, List.filter_append, h]
theorem selL_le (N : Nat) (p : Nat → Bool) : (selL N p).length ≤ N := by
  unfold selL
  rw [List.length_map]
  exact Nat.le_trans (List.length_filter_le _ _) (by simp)
theorem selL_mem {N : Nat} {p : Nat → Bool} {x : Int} : x ∈ selL N p ↔ ∃ n : Nat, x = (n : Int) ∧ n < N ∧ p n = true := by
  simp only [selL, List.mem_map, List.mem_filter, List.mem_range]
  constructor
  · rintro ⟨a, ⟨h1, h2⟩, rfl⟩
    exact ⟨a, rfl, h1, h2⟩
  · rintro ⟨n, rfl, h1, h2⟩
    exact ⟨n, ⟨h1, h2⟩, rfl⟩
theorem selL_bnd (N : Nat) (p : Nat → Bool) : Bnd N (selL N p) := by
  refine ⟨?_, fun x hx => ?_⟩
  · unfold selL
    refine List.Pairwise.map _ (fun a b (h : a ≠ b) => ?_) (List.Pairwise.filter _ List.nodup_range)
    intro e
    exact h (by omega)
  · obtain ⟨n, rfl, hn, _⟩ := selL_mem.1 hx
    omega
/-- What a program can see. -/
def seen1 (cs : List LC) (o : List Int) (x : Int) : List Int := match cs[x.toNat]? with
  | some c => [c.data, (c.refs.length : Int)] ++ c.refs.map (nameIn o)
  | none => []
def viewL (cs : List LC) (roots o : List Int) : List Int := roots.map (nameIn o) ++ o.flatMap (seen1 cs o)
theorem seen1_at {cs : List LC} {o : List Int} {n : Nat} (h : n < cs.length) : seen1 cs o (n : Int) = [cs[n].data, (cs[n].refs.length : Int)] ++ cs[n].refs.map (nameIn o) := by simp [seen1, h]
def viewV (h : LH) : List Int := if validB h = true then viewL h.cells h.roots (orderL h.cells h.roots nn) else []
theorem viewV_t {h : LH} (hv : validB h = true) : viewV h = viewL h.cells h.roots (orderL h.cells h.roots nn) := if_pos hv
theorem viewV_f {h : LH} (hv : validB h = false) : viewV h = [] := if_neg (by simp [hv])
def fwdV (h : LH) : List Int := if validB h = true then namesL h.cells.length (orderL h.cells h.roots nn) else []
theorem fwdV_t {h : LH} (hv : validB h = true) : fwdV h = namesL h.cells.length (orderL h.cells h.roots nn) := if_pos hv
theorem fwdV_f {h : LH} (hv : validB h = false) : fwdV h = [] := if_neg (by simp [hv])
theorem fwdV_len (h : LH) : (fwdV h).length ≤ h.cells.length := by
  unfold fwdV
  split
  · rw [namesL_len]; exact Nat.le_refl _
  · simp
end Go.Proofs.Ytjmfdmndchoplaa
