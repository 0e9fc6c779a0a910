/-
  Counts that are right; cells that a cell leads to; views.
  Conditions: none.
-/
import Derived.Test.YtjmfdmndchoplaaSlide
import Derived.Test.YtjmfdmndchoplaaCnt
namespace Go.Proofs.Ytjmfdmndchoplaa
open Go

def cvalB (h : LH) (xs : List Int) : Bool := validB h && decide (xs = countsV h)
theorem cvalB_f {h : LH} {xs : List Int} (hv : validB h = false) : cvalB h xs = false := by simp [cvalB, hv]
theorem cvalB_t {h : LH} {xs : List Int} (hv : validB h = true) : cvalB h xs = decide (xs = countsV h) := by simp [cvalB, hv]
theorem cvalB_ne {h : LH} {xs : List Int} (hne : ¬ xs = countsV h) : cvalB h xs = false := by simp [cvalB, hne]
theorem cvalB_eq {h : LH} {xs : List Int} (he : countsV h = xs) : cvalB h xs = validB h := by simp [cvalB, he]
/-- x is the number of a used cell of a valid heap. -/
def usedR (h : LH) (x : Int) : Bool := validB h && (decide (0 ≤ x) && usedAt h.cells x.toNat)
theorem usedR_f {h : LH} {x : Int} (hv : validB h = false) : usedR h x = false := by simp [usedR, hv]
theorem usedR_neg {h : LH} {x : Int} (hx : ¬ 0 ≤ x) : usedR h x = false := by simp [usedR, hx]
theorem usedR_big {h : LH} {n : Nat} (hx : ¬ n < h.cells.length) : usedR h (n : Int) = false := by
  have : usedAt h.cells n = false := by simp [usedAt, List.getElem?_eq_none (by omega : h.cells.length ≤ n)]
  simp [usedR, this]
theorem usedR_at {h : LH} {n : Nat} (hv : validB h = true) (hx : n < h.cells.length) : usedR h (n : Int) = h.cells[n].used := by simp [usedR, hv, usedAt_at hx]
theorem usedR_out {h : LH} {x : Int} (hx : ¬ (0 ≤ x ∧ x ≤ (h.cells.length : Int) - 1)) : usedR h x = false := by
  by_cases h0 : 0 ≤ x
  · obtain ⟨n, rfl⟩ := Int.eq_ofNat_of_zero_le h0
    exact usedR_big (by omega)
  · exact usedR_neg h0
theorem usedR_lt {h : LH} {x : Int} (hu : usedR h x = true) : ∃ n : Nat, x = (n : Int) ∧ n < h.cells.length ∧ validB h = true ∧ usedAt h.cells n = true := by
  unfold usedR at hu
  simp only [Bool.and_eq_true, decide_eq_true_eq] at hu
  have := usedAt_lt hu.2.2
  exact ⟨x.toNat, by omega, this, hu.1, hu.2.2⟩
def fromV (h : LH) (x : Int) : List Bool := if usedR h x = true then mB h.cells.length (orderL h.cells [x] nn) else []
theorem fromV_t {h : LH} {x : Int} (hu : usedR h x = true) : fromV h x = mB h.cells.length (orderL h.cells [x] nn) := if_pos hu
theorem fromV_f {h : LH} {x : Int} (hu : usedR h x = false) : fromV h x = [] := if_neg (by simp [hu])
theorem fromV_len (h : LH) (x : Int) : (fromV h x).length ≤ h.cells.length := by
  unfold fromV
  split
  · rw [mB_len]; exact Nat.le_refl _
  · simp
theorem leads_one {h : LH} {n : Nat} (v : Valid h) (hn : n < h.cells.length) : Leads h.cells [(n : Int)] nn := ⟨fun x hx _ => by simp at hx; omega, v.leads.2⟩
theorem leadsU_one {h : LH} {n : Nat} (v : Valid h) (hu : usedAt h.cells n = true) : LeadsU h.cells [(n : Int)] := ⟨fun x hx => by
  simp only [List.mem_singleton] at hx
  subst hx
  simp [leadsB, hu], v.leadsU.2⟩
/-- The view after k cells. -/
def viewK (cs : List LC) (roots o : List Int) (k : Nat) : List Int := roots.map (nameIn o) ++ (o.take k).flatMap (seen1 cs o)
theorem viewK_zero (cs : List LC) (roots o : List Int) : viewK cs roots o 0 = roots.map (nameIn o) := by simp [viewK]
theorem viewK_succ {cs : List LC} {roots o : List Int} {k n : Nat} (hk : k < o.length) (hn : o[k] = (n : Int)) (hN : n < cs.length) : viewK cs roots o (k + 1) = viewK cs roots o k ++ [cs[n].data, (cs[n].refs.length : Int)] ++ cs[n].refs.map (nameIn o) := by
  unfold viewK
  rw [List.take_succ_eq_append_getElem hk, List.flatMap_append, hn]
  simp [seen1_at hN]
theorem viewK_all {cs : List LC} {roots o : List Int} {k : Nat} (h : o.length ≤ k) : viewK cs roots o k = viewL cs roots o := by
  unfold viewK viewL
  rw [List.take_of_length_le h]
theorem viewK_len {h : LH} (v : Valid h) {o : List Int} (hb : Bnd h.cells.length o) : ∀ {k : Nat}, k ≤ o.length → (viewK h.cells h.roots o k).length ≤ 4 + 5 * k
  | 0, _ => by rw [viewK_zero, List.length_map, v.roots4]; omega
  | k + 1, hk => by
    obtain ⟨n, hn, hN, _⟩ := bnd_at hb (by omega : k < o.length)
    have := viewK_len v hb (k := k) (by omega)
    have h3 := v.refs3 hN
    rw [viewK_succ (by omega) hn hN]
    simp
    omega
theorem viewV_len (h : LH) : (viewV h).length ≤ 204 := by
  cases hv : validB h with
  | true =>
    have v := valid_iff.1 hv
    have hb := orderL_bnd v.leads
    have h1 := hb.len
    have h2 := v.le
    rw [viewV_t hv, ← viewK_all (Nat.le_refl _)]
    have := viewK_len v hb (Nat.le_refl _)
    omega
  | false => rw [viewV_f hv]; simp
theorem valid_refs {h : LH} (v : Valid h) {n : Nat} (hn : n < h.cells.length) : ∀ x ∈ h.cells[n].refs, x = -1 ∨ (0 ≤ x ∧ x < (h.cells.length : Int)) := fun x hx => by
  have h1 := v.refs hn x hx
  by_cases h0 : 0 ≤ x
  · exact .inr ⟨h0, leadsB_lt h1 h0⟩
  · left
    unfold leadsB at h1
    simp [h0] at h1
    exact h1
theorem valid_roots {h : LH} (v : Valid h) : ∀ x ∈ h.roots, x = -1 ∨ (0 ≤ x ∧ x < (h.cells.length : Int)) := fun x hx => by
  have h1 := v.roots x hx
  by_cases h0 : 0 ≤ x
  · exact .inr ⟨h0, leadsB_lt h1 h0⟩
  · left
    unfold leadsB at h1
    simp [h0] at h1
    exact h1
theorem app2 (xs : List Int) (a b : Int) : ints xs ++ [.int .i64 a, .int .i64 b] = ints (xs ++ [a, b]) := by simp [ints]
theorem ints_apps (xs ys : List Int) : ints xs ++ ints ys = ints (xs ++ ys) := by simp [ints]
theorem viewV_ge {h : LH} (hv : validB h = true) : 4 ≤ (viewV h).length := by
  rw [viewV_t hv]
  unfold viewL
  rw [List.length_append, List.length_map, (valid_iff.1 hv).roots4]
  omega
def sameV (a b : LH) : Bool := validB a && (validB b && decide (viewV a = viewV b))
theorem sameV_t {a b : LH} (ha : validB a = true) (hb : validB b = true) : sameV a b = decide (viewV a = viewV b) := by simp [sameV, ha, hb]
theorem sameV_f1 {a b : LH} (ha : validB a = false) : sameV a b = false := by simp [sameV, ha]
theorem sameV_f2 {a b : LH} (hb : validB b = false) : sameV a b = false := by simp [sameV, hb]
theorem sameV_nil {a b : LH} (h : (viewV a).length = 0) : sameV a b = false := by
  cases hv : validB a with
  | true => have := viewV_ge hv; omega
  | false => exact sameV_f1 hv
theorem sameV_ne {a b : LH} (h : ¬ viewV a = viewV b) : sameV a b = false := by simp [sameV, h]
theorem sameV_eq {a b : LH} (h0 : ¬ (viewV a).length = 0) (h : viewV a = viewV b) : sameV a b = true := by
  have ha : validB a = true := by
    cases hv : validB a with
    | true => rfl
    | false => rw [viewV_f hv] at h0; exact absurd rfl h0
  have hb : validB b = true := by
    cases hv : validB b with
    | true => rfl
    | false => rw [h, viewV_f hv] at h0; exact absurd rfl h0
  simp [sameV, ha, hb, h]
end Go.Proofs.Ytjmfdmndchoplaa
