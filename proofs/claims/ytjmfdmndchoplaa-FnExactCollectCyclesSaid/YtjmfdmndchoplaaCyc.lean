/-
  All lost cycles are freed: as data.
  Conditions: none.
-/
import Derived.Test.YtjmfdmndchoplaaSweep
namespace Go.Proofs.Ytjmfdmndchoplaa
open Go

theorem refsAll_mem {h : LH} {sk : Nat → Bool} {r : Int} : r ∈ refsAll h sk ↔ r ∈ h.roots ∨ ∃ i, i < h.cells.length ∧ sk i = false ∧ r ∈ refsOf h.cells i := by
  unfold refsAll refsUp
  rw [List.mem_append, List.mem_flatMap]
  constructor
  · rintro (hr | ⟨i, hi, hr⟩)
    · exact .inl hr
    · split at hr
      · cases hr
      · rename_i hs
        exact .inr ⟨i, by simpa using hi, by simpa using hs, hr⟩
  · rintro (hr | ⟨i, hi, hs, hr⟩)
    · exact .inl hr
    · exact .inr ⟨i, by simpa using hi, by simp [hs, hr]⟩
theorem held_of {h : LH} {n r : Nat} (hf : inB (fromM h n) r = true) (hr : (r : Int) ∈ refsAll h (inB (fromM h n))) : heldP h n r = true := by
  unfold heldP
  rw [hf, Bool.true_and, decide_eq_true_eq]
  have := List.count_pos_iff.2 hr
  omega
theorem inB_lt {bs : List Bool} {i : Nat} (h : inB bs i = true) : i < bs.length := by
  unfold inB at h
  by_cases hi : i < bs.length
  · exact hi
  · rw [List.getElem?_eq_none (by omega)] at h
    cases h
theorem dead_from {h : LH} {n i : Nat} (hd : deadP h n i = true) : inB (fromM h n) i = true := by
  unfold deadP at hd
  rw [Bool.and_eq_true] at hd
  exact hd.1
theorem dead_not {h : LH} {n i : Nat} (hd : deadP h n i = true) : (i : Int) ∉ orderL h.cells (heldL h n) nn := by
  unfold deadP at hd
  rw [Bool.and_eq_true] at hd
  simpa using hd.2
theorem dead_lt {h : LH} {n i : Nat} (hd : deadP h n i = true) : i < h.cells.length := by
  have := inB_lt (dead_from hd)
  rwa [fromM_len] at this
theorem heldL_in {h : LH} {n i : Nat} (hi : i < h.cells.length) (hp : heldP h n i = true) : (i : Int) ∈ heldL h n := selL_mem.2 ⟨i, rfl, hi, hp⟩
/-- No root, and no cell that is not dead, refers to a dead cell. -/
theorem dead_keeps {h : LH} (v : Valid h) (n : Nat) : Keeps h (deadP h n) := by
  have held : ∀ r : Nat, deadP h n r = true → (r : Int) ∉ refsAll h (inB (fromM h n)) := fun r hd hr => by
    have hm := heldL_in (dead_lt hd) (held_of (dead_from hd) hr)
    exact dead_not hd ((orderL_mem (heldL_leads v n)).2 (.root hm (by simp [nn])))
  refine ⟨fun r hr ⟨h0, hd⟩ => ?_, fun m hm r hr ⟨h0, hd⟩ => ?_⟩
  · obtain ⟨k, rfl⟩ := Int.eq_ofNat_of_zero_le h0
    rw [Int.toNat_natCast] at hd
    exact held k hd (refsAll_mem.2 (.inl hr))
  · obtain ⟨k, rfl⟩ := Int.eq_ofNat_of_zero_le h0
    rw [Int.toNat_natCast] at hd
    have hmN : m < h.cells.length := by
      by_cases hmN : m < h.cells.length
      · exact hmN
      · simp [refsOf, List.getElem?_eq_none (by omega : h.cells.length ≤ m)] at hr
    cases hf : inB (fromM h n) m with
    | false => exact held k hd (refsAll_mem.2 (.inr ⟨m, hmN, hf, hr⟩))
    | true =>
      unfold deadP at hm
      rw [hf, Bool.true_and, Bool.not_eq_false', decide_eq_true_eq] at hm
      have hl := heldL_leads v n
      exact dead_not hd ((orderL_mem hl).2 (.step ((orderL_mem hl).1 hm) hr (by simp [nn])))
theorem dead_valid {h : LH} (v : Valid h) (n : Nat) : Valid (dropH h (deadP h n)) := valid_iff.1 ((valid_drop v _).2 (dead_keeps v n))
/-- A dead cell is used. -/
theorem dead_used {h : LH} (v : Valid h) {n i : Nat} (hn : n < h.cells.length) (hu : usedAt h.cells n = true) (hd : deadP h n i = true) : usedAt h.cells i = true := by
  have h1 := from_insU v hn hu
  unfold insU at h1
  have h2 := List.all_eq_true.1 h1 i (by simpa using dead_lt hd)
  rw [dead_from hd] at h2
  simpa using h2
/-- The heap once the first k cells were suspects. -/
def cycH (h : LH) : Nat → LH
  | 0 => h
  | k + 1 => if usedAt (cycH h k).cells k = true then dropH (cycH h k) (deadP (cycH h k) k) else cycH h k
def cycN (h : LH) : Nat → Nat
  | 0 => 0
  | k + 1 => if usedAt (cycH h k).cells k = true then cycN h k + cntP (deadP (cycH h k) k) h.cells.length else cycN h k
theorem cycH_t {h : LH} {k : Nat} (hu : usedAt (cycH h k).cells k = true) : cycH h (k + 1) = dropH (cycH h k) (deadP (cycH h k) k) := if_pos hu
theorem cycH_f {h : LH} {k : Nat} (hu : usedAt (cycH h k).cells k = false) : cycH h (k + 1) = cycH h k := if_neg (by simp [hu])
theorem cycN_t {h : LH} {k : Nat} (hu : usedAt (cycH h k).cells k = true) : cycN h (k + 1) = cycN h k + cntP (deadP (cycH h k) k) h.cells.length := if_pos hu
theorem cycN_f {h : LH} {k : Nat} (hu : usedAt (cycH h k).cells k = false) : cycN h (k + 1) = cycN h k := if_neg (by simp [hu])
theorem cycH_roots (h : LH) : ∀ k, (cycH h k).roots = h.roots
  | 0 => rfl
  | k + 1 => by
    have ih := cycH_roots h k
    cases hu : usedAt (cycH h k).cells k with
    | true => rw [cycH_t hu]; exact ih
    | false => rw [cycH_f hu]; exact ih
theorem cycH_len (h : LH) : ∀ k, (cycH h k).cells.length = h.cells.length
  | 0 => rfl
  | k + 1 => by
    have ih := cycH_len h k
    cases hu : usedAt (cycH h k).cells k with
    | true => rw [cycH_t hu]; exact (dropC_len _ _).trans ih
    | false => rw [cycH_f hu]; exact ih
theorem cycH_valid {h : LH} (v : Valid h) : ∀ k, Valid (cycH h k)
  | 0 => v
  | k + 1 => by
    have ih := cycH_valid v k
    cases hu : usedAt (cycH h k).cells k with
    | true => rw [cycH_t hu]; exact dead_valid ih _
    | false => rw [cycH_f hu]; exact ih
theorem cycN_le (h : LH) : ∀ k, cycN h k ≤ k * h.cells.length
  | 0 => by simp [cycN]
  | k + 1 => by
    have ih := cycN_le h k
    have := cntP_le (deadP (cycH h k) k) h.cells.length
    rw [Nat.add_mul]
    cases hu : usedAt (cycH h k).cells k with
    | true => rw [cycN_t hu]; omega
    | false => rw [cycN_f hu]; omega
theorem cycN_small {h : LH} (v : Valid h) {k : Nat} (hk : k ≤ h.cells.length) : cycN h k ≤ 1600 := by
  have h1 := cycN_le h k
  have h2 := v.le
  have h3 : k * h.cells.length ≤ 40 * 40 := Nat.mul_le_mul (by omega) h2
  omega
theorem dead_all {h : LH} (v : Valid h) {n d : Nat} (hn : n < h.cells.length) (hu : usedAt h.cells n = true) (hd : ∀ i, d.testBit i = deadP h n i) : (fun i => d.testBit i && usedAt h.cells i) = deadP h n := by
  funext i
  rw [hd]
  cases hp : deadP h n i with
  | false => rfl
  | true => rw [dead_used v hn hu hp]; rfl
theorem deadL_in {h : LH} {n i : Nat} : inB (deadL h n) i = deadP h n i := by
  unfold inB
  by_cases hi : i < h.cells.length
  · simp [deadL, hi]
  · rw [List.getElem?_eq_none (by rw [deadL_len]; omega)]
    cases hp : deadP h n i with
    | false => rfl
    | true => exact absurd (dead_lt hp) hi
theorem deadL_drop (h : LH) (n : Nat) : dropH h (inB (deadL h n)) = dropH h (deadP h n) := by
  have : inB (deadL h n) = deadP h n := funext fun i => deadL_in
  rw [this]
theorem deadL_at {h : LH} {n j : Nat} (hj : j < (deadL h n).length) : (deadL h n)[j] = deadP h n j := by simp [deadL]
theorem SubC.trans {a b c : List LC} {ra rb rc : List (Option Addr × Nat)} (h1 : SubC a ra b rb) (h2 : SubC b rb c rc) : SubC a ra c rc := fun i x r hx hr hn => by
  obtain ⟨p, q⟩ := h1 i x r hx hr hn
  exact h2 i x r p q hn
def cycleV (h : LH) (xs : List Int) : (LH × List Int) × Int := if cvalB h xs = true then ((cycH h h.cells.length, cntL h.cells.length (refsAll (cycH h h.cells.length) fun _ => false)), ((cycN h h.cells.length : Nat) : Int)) else ((nilH, []), -1)
theorem cycleV_t {h : LH} {xs : List Int} (hv : cvalB h xs = true) : cycleV h xs = ((cycH h h.cells.length, cntL h.cells.length (refsAll (cycH h h.cells.length) fun _ => false)), ((cycN h h.cells.length : Nat) : Int)) := if_pos hv
theorem cycleV_f {h : LH} {xs : List Int} (hv : cvalB h xs = false) : cycleV h xs = ((nilH, []), -1) := if_neg (by simp [hv])
theorem cval_valid {h : LH} {xs : List Int} (hv : cvalB h xs = true) : validB h = true := by
  unfold cvalB at hv
  rw [Bool.and_eq_true] at hv
  exact hv.1
theorem cycle_small (h : LH) (xs : List Int) : hsize (cycleV h xs).1.1 ≤ 200 ∧ (cycleV h xs).1.2.length ≤ 40 := by
  cases hv : cvalB h xs with
  | true =>
    have v := valid_iff.1 (cval_valid hv)
    rw [cycleV_t hv]
    exact ⟨(cycH_valid v _).small, by rw [cntL_len]; exact v.le⟩
  | false => rw [cycleV_f hv]; decide
end Go.Proofs.Ytjmfdmndchoplaa
