/-
  Heaps as data: what the program and the reference compute, in plain plain.
  Conditions: none.
-/
import Derived.Test.YtjmfdmndchoplaaMem
namespace Go.Proofs.Ytjmfdmndchoplaa
open Go

theorem bI {p q : Prop} [Decidable p] [Decidable q] (h : p ↔ q) : Value.bool (decide p) = Value.bool (decide q) := by simp [h]
theorem bAT {b : Bool} (h : b = true) : Value.bool true = Value.bool b := by rw [h]
theorem bAF {b : Bool} (h : ¬ b = true) : Value.bool false = Value.bool b := by cases b <;> simp_all
theorem bAI {b c : Bool} (h : b = true ↔ c = true) : Value.bool b = Value.bool c := by cases b <;> cases c <;> simp_all
/-! ### validity -/
def usedAt (cs : List LC) (n : Nat) : Bool := match cs[n]? with
  | some c => c.used
  | none => false
/-- A reference is -1 or leads to a used cell. -/
def leadsB (cs : List LC) (r : Int) : Bool := decide (r = -1) || (decide (0 ≤ r) && usedAt cs r.toNat)
theorem leadsB_m1 (cs : List LC) : leadsB cs (-1) = true := by simp [leadsB]
theorem leadsB_at {cs : List LC} {n : Nat} (hn : n < cs.length) : leadsB cs (n : Int) = cs[n].used := by
  simp [leadsB, usedAt, hn]
theorem leadsB_no {cs : List LC} {r : Int} (h : ¬ r = -1) (hn : ¬ (0 ≤ r ∧ r < (cs.length : Int))) : leadsB cs r = false := by
  unfold leadsB usedAt
  by_cases h0 : 0 ≤ r
  · have : cs.length ≤ r.toNat := by omega
    simp [h, this]
  · simp [h, h0]
def okP (cs : List LC) (c : LC) : Prop := (c.used = true → c.refs.all (leadsB cs) = true ∧ 0 ≤ c.data ∧ c.data ≤ 99 ∧ c.refs.length ≤ 3) ∧ (c.used = false → c.data = 0 ∧ c.refs.length = 0)
instance (cs : List LC) (c : LC) : Decidable (okP cs c) := by unfold okP; infer_instance
def okB (cs : List LC) (c : LC) : Bool := decide (okP cs c)
theorem okP_t {cs : List LC} {c : LC} (h : ¬ c.used = false) (h1 : c.refs.all (leadsB cs) = true) (h2 : 0 ≤ c.data) (h3 : c.data ≤ 99) (h4 : c.refs.length ≤ 3) : okP cs c := ⟨fun _ => ⟨h1, h2, h3, h4⟩, fun e => absurd e h⟩
theorem okP_u {cs : List LC} {c : LC} (h : c.used = true) : okP cs c ↔ c.refs.all (leadsB cs) = true ∧ 0 ≤ c.data ∧ c.data ≤ 99 ∧ c.refs.length ≤ 3 := by simp [okP, h]
theorem okP_n {cs : List LC} {c : LC} (h : c.used = false) : okP cs c ↔ c.data = 0 ∧ c.refs.length = 0 := by simp [okP, h]
theorem okB_f {cs : List LC} {c : LC} (h : ¬ okP cs c) : okB cs c = false := by simp [okB, h]
theorem okB_t {cs : List LC} {c : LC} (h : okP cs c) : okB cs c = true := by simp [okB, h]
theorem all_len0 {α : Type} {p : α → Bool} {xs : List α} (h : xs.length = 0) : xs.all p = true := by
  have := List.eq_nil_of_length_eq_zero h
  simp [this]
theorem bAD {b : Bool} {q : Prop} [Decidable q] (h : b = true ↔ q) : Value.bool b = Value.bool (decide q) := by
  cases b <;> simp_all
/-- A heap is valid. -/
def validB (h : LH) : Bool := decide (h.cells.length ≤ 40 ∧ h.roots.length = 4 ∧ h.cells.all (okB h.cells) = true ∧ h.roots.all (leadsB h.cells) = true)
theorem all_take_succ {α : Type} {p : α → Bool} {xs : List α} {k : Nat} (hk : k < xs.length) (h : (xs.take k).all p = true) (hp : p xs[k] = true) : (xs.take (k + 1)).all p = true := by
  rw [List.take_succ_eq_append_getElem hk, List.all_append, h]
  simp [hp]
theorem all_of_take {α : Type} {p : α → Bool} {xs : List α} {k : Nat} (hk : xs.length ≤ k) (h : (xs.take k).all p = true) : xs.all p = true := by
  rwa [List.take_of_length_le hk] at h
theorem all_false {α : Type} {p : α → Bool} {xs : List α} {k : Nat} (hk : k < xs.length) (hp : p xs[k] = false) : ¬ xs.all p = true := by
  intro h
  rw [List.all_eq_true] at h
  rw [h _ (List.getElem_mem hk)] at hp
  cases hp
/-- The references of the first k cells. -/
def rsum (cs : List LC) (k : Nat) : Nat := ((cs.take k).map (·.refs.length)).sum
theorem rsum_succ {cs : List LC} {k : Nat} (h : k < cs.length) : rsum cs (k + 1) = rsum cs k + cs[k].refs.length := by
  unfold rsum
  rw [List.take_succ_eq_append_getElem h, List.map_append, List.sum_append]
  simp
theorem rsum_mono {cs : List LC} {k : Nat} : ∀ {n : Nat}, k ≤ n → n ≤ cs.length → rsum cs k ≤ rsum cs n
  | 0, h, _ => by
    have : k = 0 := by omega
    subst this
    exact Nat.le_refl _
  | n + 1, h, hn => by
    by_cases hk : k = n + 1
    · rw [hk]
      exact Nat.le_refl _
    · have := rsum_mono (cs := cs) (n := n) (k := k) (by omega) (by omega)
      rw [rsum_succ (by omega)]
      omega
/-- What a heap weighs. -/
def hsize (h : LH) : Nat := h.cells.length + rsum h.cells h.cells.length + h.roots.length
theorem hsize_cells (h : LH) : h.cells.length ≤ hsize h := by unfold hsize; omega
theorem hsize_roots (h : LH) : h.roots.length ≤ hsize h := by unfold hsize; omega
theorem hsize_refs (h : LH) {k : Nat} (hk : k < h.cells.length) : h.cells[k].refs.length ≤ hsize h := by
  have h1 := rsum_succ hk
  have h2 := rsum_mono (cs := h.cells) (k := k + 1) (n := h.cells.length) (by omega) (Nat.le_refl _)
  unfold hsize
  omega
end Go.Proofs.Ytjmfdmndchoplaa
