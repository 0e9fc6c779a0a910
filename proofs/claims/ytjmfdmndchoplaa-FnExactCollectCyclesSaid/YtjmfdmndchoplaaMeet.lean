/-
  Lists of marks as the walks meet them.
  Conditions: none.
-/
import Derived.Test.YtjmfdmndchoplaaReach
import Derived.Test.YtjmfdmndchoplaaApp
namespace Go.Proofs.Ytjmfdmndchoplaa
open Go

/-- Every reference that is no -1. -/
def nn (r : Int) : Bool := decide (0 ≤ r)
theorem nn_pos {r : Int} (h : nn r = true) : 0 ≤ r := by simpa [nn] using h
/-- Of the first N numbers: which are in s. -/
def mB (N : Nat) (s : List Int) : List Bool := (List.range N).map fun (i : Nat) => decide ((i : Int) ∈ s)
theorem mB_len (N : Nat) (s : List Int) : (mB N s).length = N := by simp [mB]
theorem mB_get {N n : Nat} {s : List Int} (h : n < N) : (mB N s)[n]? = some (decide ((n : Int) ∈ s)) := by simp [mB, h]
theorem mB_at {N n : Nat} {s : List Int} (h : n < N) : (bools (mB N s)).toArray[n]? = some (.bool (decide ((n : Int) ∈ s))) := by
  rw [List.getElem?_toArray]
  exact bools_get (mB_get h)
theorem mB_zero (N : Nat) : zeros [.bool false] N = bools (mB N []) := by
  apply List.ext_getElem?
  intro i
  by_cases hi : i < N
  · rw [zeros_get _ (by decide) N i (by simpa using hi), bools_get (mB_get hi)]
    simp [Nat.mod_one]
  · rw [List.getElem?_eq_none (by rw [zeros_len]; simp; omega), List.getElem?_eq_none (by rw [bools_len, mB_len]; omega)]
theorem split_at {α : Type} {l : List α} {n : Nat} {x : α} (h : l[n]? = some x) : l = l.take n ++ [x] ++ l.drop (n + 1) := by
  obtain ⟨h1, h2⟩ := List.getElem?_eq_some_iff.1 h
  rw [List.append_assoc, List.singleton_append, ← h2, ← List.drop_eq_getElem_cons, List.take_append_drop]
theorem mB_split {N n : Nat} {s : List Int} (h : n < N) : bools (mB N s) = (bools (mB N s)).take n ++ [.bool (decide ((n : Int) ∈ s))] ++ (bools (mB N s)).drop (n + 1) := split_at (bools_get (mB_get h))
theorem mB_set {N n : Nat} {s : List Int} (h : n < N) : (bools (mB N s)).take n ++ [.bool true] ++ (bools (mB N s)).drop (n + 1) = bools (mB N (s ++ [(n : Int)])) := by
  apply List.ext_getElem?
  intro i
  have hl : ((bools (mB N s)).take n).length = n := by rw [List.length_take, bools_len, mB_len]; omega
  by_cases h1 : i < n
  · rw [List.append_assoc, List.getElem?_append_left (by omega), List.getElem?_take, if_pos h1, bools_get (mB_get (by omega)), bools_get (mB_get (by omega))]
    simp
    intro e
    omega
  · by_cases h2 : i = n
    · subst h2
      rw [List.append_assoc, List.getElem?_append_right (by omega), hl, Nat.sub_self, bools_get (mB_get h)]
      simp
    · rw [List.getElem?_append_right (by rw [List.length_append]; simp; omega), List.getElem?_drop, List.length_append, hl]
      simp only [List.length_cons, List.length_nil]
      rw [show n + 1 + (i - (n + (0 + 1))) = i by omega]
      by_cases h3 : i < N
      · rw [bools_get (mB_get h3), bools_get (mB_get h3)]
        simp
        intro e
        omega
      · rw [List.getElem?_eq_none (by rw [bools_len, mB_len]; omega), List.getElem?_eq_none (by rw [bools_len, mB_len]; omega)]
theorem meet1_new {ok : Int → Bool} {s : List Int} {r : Int} (h : ok r = true) (hn : r ∉ s) : meet1 ok s r = s ++ [r] := if_pos ⟨h, hn⟩
theorem meet1_old {ok : Int → Bool} {s : List Int} {r : Int} (hn : r ∈ s) : meet1 ok s r = s := if_neg (fun h => h.2 hn)
theorem meet1_not {ok : Int → Bool} {s : List Int} {r : Int} (hn : ok r = false) : meet1 ok s r = s := if_neg (fun h => by rw [hn] at h; exact absurd h.1 (by decide))
theorem nn_of {r : Int} (h : 0 ≤ r) : nn r = true := by simpa [nn] using h
theorem nn_no {r : Int} (h : ¬ 0 ≤ r) : nn r = false := by simpa [nn] using h
/-- s has each number once, and all below N. -/
def Bnd (N : Nat) (s : List Int) : Prop := s.Nodup ∧ ∀ x ∈ s, 0 ≤ x ∧ x < (N : Int)
theorem Bnd.nil (N : Nat) : Bnd N [] := ⟨by simp, by simp⟩
theorem Bnd.meet {N : Nat} {s rs : List Int} (h : Bnd N s) (hr : ∀ x ∈ rs, nn x = true → 0 ≤ x ∧ x < (N : Int)) : Bnd N (meet nn s rs) :=
  ⟨meet_nodup h.1, fun x hx => by
    rcases meet_mem.1 hx with hx | ⟨hx, ho⟩
    · exact h.2 x hx
    · exact hr x hx ho⟩
theorem Bnd.take {N : Nat} {s rs : List Int} {k : Nat} (h : Bnd N s) (hr : ∀ x ∈ rs, nn x = true → 0 ≤ x ∧ x < (N : Int)) : Bnd N (Go.Proofs.Ytjmfdmndchoplaa.meet nn s (rs.take k)) := h.meet (fun x hx => hr x (List.mem_of_mem_take hx))
theorem Bnd.len {N : Nat} {s : List Int} (h : Bnd N s) : s.length ≤ N := nodup_bound N s h.1 h.2
theorem Ord.bnd {cs : List LC} {fr : List Int} {i : Nat} {s : List Int} (h : Ord cs fr nn i s) (hl : Leads cs fr nn) : Bnd cs.length s := ⟨h.nodup, fun _ hx => h.mem_lt hl (fun _ => nn_pos) hx⟩
theorem bnd_at {N k : Nat} {s : List Int} (h : Bnd N s) (hk : k < s.length) : ∃ n : Nat, s[k] = (n : Int) ∧ n < N ∧ s[k]? = some (n : Int) := by
  have h1 := h.2 s[k] (List.getElem_mem hk)
  refine ⟨s[k].toNat, by omega, by omega, ?_⟩
  rw [List.getElem?_eq_getElem hk]
  congr 1
  omega
/-- A number that a reference is. -/
theorem ref_at {N : Nat} {rs : List Int} {k : Nat} (hr : ∀ x ∈ rs, nn x = true → 0 ≤ x ∧ x < (N : Int)) (hk : k < rs.length) (h0 : 0 ≤ rs[k]) : ∃ n : Nat, rs[k] = (n : Int) ∧ n < N := by
  have := hr rs[k] (List.getElem_mem hk) (nn_of h0)
  exact ⟨rs[k].toNat, by omega, by omega⟩
theorem ints_app (s : List Int) (x : Int) : ints s ++ [.int .i64 x] = ints (s ++ [x]) := by simp [ints]
theorem Leads.refs {cs : List LC} {fr : List Int} {ok : Int → Bool} (h : Leads cs fr ok) {n : Nat} (hn : n < cs.length) : ∀ x ∈ cs[n].refs, ok x = true → 0 ≤ x ∧ x < (cs.length : Int) := fun x hx ho => h.2 n x (by rw [refsOf_at hn]; exact hx) ho
theorem bfs_go {cs : List LC} {ok : Int → Bool} {k n : Nat} {s : List Int} (hk : k < cs.length) (h : s[k]? = some (n : Int)) : bfs cs ok (cs.length - k) k s = bfs cs ok (cs.length - (k + 1)) (k + 1) (meet ok s (refsOf cs n)) := by
  rw [show cs.length - k = (cs.length - (k + 1)) + 1 by omega]
  exact bfs_step h
end Go.Proofs.Ytjmfdmndchoplaa
