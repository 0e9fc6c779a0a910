/-
  Lists of cells in ascending order: the reached ones, the leaked ones; how many move.
  Conditions: none.
-/
import Derived.Test.YtjmfdmndchoplaaName
import Derived.Test.YtjmfdmndchoplaaUse
import Derived.Test.YtjmfdmndchoplaaWalkK
namespace Go.Proofs.Ytjmfdmndchoplaa
open Go

theorem R1.of_blkE {w : World} {b : Nat} {e : TypeId} {us : List Value} (h : Blk w b e us.toArray) : R1 (fun i => i = b) w (some ⟨b, 0, none⟩) us := R1.of_blk (post := []) (by simpa using h) rfl
/-- Cell n can be reached. -/
def rB (h : LH) (n : Nat) : Bool := decide ((n : Int) ∈ orderL h.cells h.roots nn)
theorem rB_list {h : LH} {m n : Nat} (e : listB m h.cells.length = mB h.cells.length (orderL h.cells h.roots nn)) (hn : n < h.cells.length) : m.testBit n = rB h n := by
  have h1 : (listB m h.cells.length)[n]? = some (m.testBit n) := by simp [listB, hn]
  rw [e, mB_get hn] at h1
  exact (Option.some.inj h1).symm
theorem rB_reach {h : LH} {n : Nat} (hv : validB h = true) (hn : n < h.cells.length) : (reachV h)[n]? = some (rB h n) := by rw [reachV_t hv, mB_get hn]; rfl
theorem used_set {m : Nat} {cs : List LC} (hm : SetOf m (usedL cs)) (n : Nat) : m.testBit n = usedAt cs n := by
  rw [hm.2]
  unfold usedAt usedL
  cases hc : cs[n]? with
  | none => simp [hc]
  | some c => cases hu : c.used <;> simp [hc, hu]
theorem usedAt_at {cs : List LC} {n : Nat} (h : n < cs.length) : usedAt cs n = cs[n].used := by simp [usedAt, h]
def slideL (h : LH) : List Int := selL h.cells.length (rB h)
def leakP (h : LH) (n : Nat) : Bool := usedAt h.cells n && !rB h n
def leakV (h : LH) : List Int := selL (reachV h).length (leakP h)
theorem leakV_t {h : LH} (hv : validB h = true) : leakV h = selL h.cells.length (leakP h) := by rw [leakV, reachV_len hv]
theorem leakV_f {h : LH} (hv : validB h = false) : leakV h = [] := by rw [leakV, reachV_f hv]; rfl
theorem leakV_len (h : LH) : (leakV h).length ≤ (reachV h).length := selL_le _ _
def sfwdV (h : LH) : List Int := if validB h = true then namesL h.cells.length (slideL h) else []
theorem sfwdV_t {h : LH} (hv : validB h = true) : sfwdV h = namesL h.cells.length (slideL h) := if_pos hv
theorem sfwdV_f {h : LH} (hv : validB h = false) : sfwdV h = [] := if_neg (by simp [hv])
theorem sfwdV_len (h : LH) : (sfwdV h).length ≤ h.cells.length := by
  unfold sfwdV
  split
  · rw [namesL_len]; exact Nat.le_refl _
  · simp
/-- How many cells of an order get another number, among the cells of l. -/
def movedN (o l : List Int) : Nat := l.countP fun x => decide (nameIn o x ≠ x)
theorem movedN_le (o l : List Int) : movedN o l ≤ l.length := List.countP_le_length
theorem movedN_snoc (o l : List Int) (x : Int) : movedN o (l ++ [x]) = movedN o l + (if nameIn o x ≠ x then 1 else 0) := by
  unfold movedN
  rw [List.countP_append]
  by_cases h : nameIn o x = x <;> simp [h]
theorem nameIn_self {N k : Nat} {o : List Int} (hb : Bnd N o) (hk : k < o.length) : nameIn o o[k] = (k : Int) := by
  obtain ⟨n, hn, _, _⟩ := bnd_at hb hk
  rw [hn]
  exact nameIn_at hk (take_notMem hb hk hn) hn
def movedV (h : LH) : Int := if validB h = true then ((movedN (slideL h) (slideL h) : Nat) : Int) else -1
theorem movedV_t {h : LH} (hv : validB h = true) : movedV h = ((movedN (slideL h) (slideL h) : Nat) : Int) := if_pos hv
theorem movedV_f {h : LH} (hv : validB h = false) : movedV h = -1 := if_neg (by simp [hv])
theorem slide_no {h : LH} {k : Nat} (hk : rB h k = false) : nameIn (slideL h) (k : Int) = -1 := nameIn_no (fun hm => by
  obtain ⟨n, hn, _, hp⟩ := selL_mem.1 hm
  have : n = k := by omega
  subst this
  rw [hk] at hp
  cases hp)
theorem slide_yes {h : LH} {k : Nat} (hN : k < h.cells.length) (hk : rB h k = true) : 0 ≤ nameIn (slideL h) (k : Int) := by
  unfold nameIn
  rw [if_pos (show (k : Int) ∈ slideL h from selL_mem.2 ⟨k, rfl, hN, hk⟩)]
  omega
end Go.Proofs.Ytjmfdmndchoplaa
