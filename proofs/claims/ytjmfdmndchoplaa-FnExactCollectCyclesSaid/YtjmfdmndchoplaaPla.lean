/-
  More on heaps as data.
  Conditions: none.
-/
import Derived.Test.YtjmfdmndchoplaaPlain
namespace Go.Proofs.Ytjmfdmndchoplaa
open Go

/-! ### the first free place -/
def placeN (cs : List LC) : Nat := (cs.takeWhile (·.used)).length
theorem takeWhile_at {α : Type} {p : α → Bool} : ∀ {cs : List α} {k : Nat} (hk : k < cs.length), (cs.take k).all p = true → p cs[k] = false → (cs.takeWhile p).length = k
  | [], k, hk, _, _ => by simp at hk
  | c :: cs, 0, _, _, h => by
    have : p c = false := h
    simp [List.takeWhile, this]
  | c :: cs, k + 1, hk, ha, h => by
    simp only [List.take_succ_cons, List.all_cons, Bool.and_eq_true] at ha
    have := takeWhile_at (cs := cs) (k := k) (by simpa using hk) ha.2 (by simpa using h)
    simp [List.takeWhile, ha.1, this]
theorem place_at {cs : List LC} {k : Nat} (hk : k < cs.length) (ha : (cs.take k).all (·.used) = true) (h : cs[k].used = false) : placeN cs = k := takeWhile_at hk ha h
theorem place_end {cs : List LC} (ha : cs.all (·.used) = true) : placeN cs = cs.length := by
  unfold placeN
  induction cs with
  | nil => rfl
  | cons c cs ih =>
    simp only [List.all_cons, Bool.and_eq_true] at ha
    simp [List.takeWhile, ha.1, ih ha.2]
theorem place_le (cs : List LC) : placeN cs ≤ cs.length := (List.takeWhile_prefix _).length_le
def freeV (h : LH) : Int := if validB h then (placeN h.cells : Int) else -1
end Go.Proofs.Ytjmfdmndchoplaa
