/-
  Lazy heaps: which are valid.
  Conditions: none.
-/
import Derived.Test.YtjmfdmndchoplaaTrial
namespace Go.Proofs.Ytjmfdmndchoplaa
open Go

section
variable {P : Program} {F : Fr} {w : World} {t t' : TypeId} {x y : Operand}
theorem Y_subU {a b : Nat} (hx : ev F x = some (.int .u64 (a : Int))) (hy : ev F y = some (.int .u64 (b : Int))) (h : b ≤ a) (ha : a < 2 ^ 64) : Yl P F (.binOp .sub t x y t') (.int .u64 ((a - b : Nat) : Int)) w w := fun D _ _ _ _ _ => by
  have key : IntKind.u64.wrap ((a : Int) - (b : Int)) = ((a - b : Nat) : Int) := by
    rw [wrap_u64]
    omega
  simp [execOp, ev_eval (D := D) hx, ev_eval (D := D) hy, eqGuard_sub, binOp_sub, Op.intArith]
  simpa using key
end
/-- A cell is as it may not be. -/
def lzBad (h : LH) (ms : List Bool) (a k : Nat) : Bool := (rB h k && !inB ms k) || ((inB ms k && !usedAt h.cells k) || (decide (k < a) && (!inB ms k && usedAt h.cells k)))
def lzOk (h : LH) (ms : List Bool) (a k : Nat) : Bool := (List.range k).all fun i => !lzBad h ms a i
theorem lzOk_succ {h : LH} {ms : List Bool} {a k : Nat} : lzOk h ms a (k + 1) = (lzOk h ms a k && !lzBad h ms a k) := by simp [lzOk, List.range_succ]
theorem lzOk_bad {h : LH} {ms : List Bool} {a k N : Nat} (hk : k < N) (hb : lzBad h ms a k = true) : lzOk h ms a N = false := by
  unfold lzOk
  rw [List.all_eq_false]
  exact ⟨k, by simp [hk], by simp [hb]⟩
/-- A lazy heap is valid. -/
def lazB (h : LH) (ms : List Bool) (x : Int) : Bool := validB h && (decide (ms.length = h.cells.length) && (decide (0 ≤ x) && (decide (x ≤ (ms.length : Int)) && lzOk h ms x.toNat h.cells.length)))
theorem lazB_f1 {h : LH} {ms : List Bool} {x : Int} (hv : validB h = false) : lazB h ms x = false := by simp [lazB, hv]
theorem lazB_f2 {h : LH} {ms : List Bool} {x : Int} (hv : ¬ ms.length = h.cells.length) : lazB h ms x = false := by simp [lazB, hv]
theorem lazB_f3 {h : LH} {ms : List Bool} {x : Int} (hv : ¬ (0 ≤ x ∧ x ≤ (ms.length : Int))) : lazB h ms x = false := by
  unfold lazB
  by_cases h1 : 0 ≤ x
  · have h2 : ¬ x ≤ (ms.length : Int) := fun h2 => hv ⟨h1, h2⟩
    simp [h2]
  · simp [h1]
theorem lazB_t {h : LH} {ms : List Bool} {a : Nat} (hv : validB h = true) (hl : ms.length = h.cells.length) (ha : a ≤ ms.length) : lazB h ms (a : Int) = lzOk h ms a h.cells.length := by
  unfold lazB
  rw [hv]
  simp [hl]
  omega
/-- The program's three sets are empty just if no cell is as it may not be. -/
theorem zero_iff {m : Nat} : ((m : Nat) : Int) = 0 ↔ ∀ i, m.testBit i = false := by
  constructor
  · intro h i
    have : m = 0 := by omega
    rw [this, Nat.zero_testBit]
  · intro h
    have : m = 0 := Nat.eq_of_testBit_eq fun i => by rw [h i, Nat.zero_testBit]
    omega
theorem below_lt {a : Nat} (ha : a < 64) : 2 ^ a - 1 < 2 ^ 64 := by
  have : 2 ^ a < 2 ^ 64 := Nat.pow_lt_pow_right (by decide) ha
  omega
theorem lz_iff {h : LH} {ms : List Bool} {r m u a : Nat} (hr0 : r < 2 ^ 64) (hr : ∀ i, r.testBit i = (decide (i < h.cells.length) && rB h i)) (hm : SetOf m ms) (hu : SetOf u (usedL h.cells)) (hl : ms.length = h.cells.length) (_ha : a < 64) :
    lzOk h ms a h.cells.length = (decide (((lessN r m : Nat) : Int) = 0) && (decide (((lessN m u : Nat) : Int) = 0) && decide (((lessN (u &&& (2 ^ a - 1)) m : Nat) : Int) = 0))) := by
  have hub : (u &&& (2 ^ a - 1)) < 2 ^ 64 := Nat.lt_of_le_of_lt Nat.and_le_left hu.1
  rw [Bool.eq_iff_iff]
  simp only [Bool.and_eq_true, decide_eq_true_eq, zero_iff, lessN_bit hr0 hm.1, lessN_bit hm.1 hu.1, lessN_bit hub hm.1, Nat.testBit_and, Nat.testBit_two_pow_sub_one, used_set hu]
  have hmi : ∀ i, m.testBit i = inB ms i := fun i => congrFun (set_in hm) i
  simp only [hmi, hr]
  unfold lzOk
  rw [List.all_eq_true]
  constructor
  · intro h0
    have h1 : ∀ i, i < h.cells.length → lzBad h ms a i = false := fun i hi => by simpa using h0 i (by simp [hi])
    have h2 : ∀ i, ¬ i < h.cells.length → inB ms i = false ∧ usedAt h.cells i = false := fun i hi => by
      refine ⟨by unfold inB; rw [List.getElem?_eq_none (by omega)]; rfl, ?_⟩
      unfold usedAt
      rw [List.getElem?_eq_none (by omega)]
    refine ⟨fun i => ?_, fun i => ?_, fun i => ?_⟩ <;> by_cases hi : i < h.cells.length
    · have := h1 i hi
      unfold lzBad at this
      revert this
      cases rB h i <;> cases inB ms i <;> simp
    · simp [hi]
    · have := h1 i hi
      unfold lzBad at this
      revert this
      cases inB ms i <;> cases usedAt h.cells i <;> simp
    · simp [(h2 i hi).1]
    · have := h1 i hi
      unfold lzBad at this
      revert this
      cases inB ms i <;> cases usedAt h.cells i <;> cases decide (i < a) <;> simp
    · simp [(h2 i hi).2]
  · intro ⟨h1, h2, h3⟩ i hi
    have hi' : i < h.cells.length := by simpa using hi
    have e1 := h1 i
    have e2 := h2 i
    have e3 := h3 i
    unfold lzBad
    revert e1 e2 e3
    rw [decide_eq_true hi']
    cases rB h i <;> cases inB ms i <;> cases usedAt h.cells i <;> cases decide (i < a) <;> simp
end Go.Proofs.Ytjmfdmndchoplaa
