/-
  Walks: the order of the cells, as the program and the reference tell it.
  Conditions: those that each theorem states.
-/
import Derived.Test.YtjmfdmndchoplaaTy
import Derived.Test.YtjmfdmndchoplaaWalkK
import Derived.Test.YtjmfdmndchoplaaWalkM
namespace Go.Proofs.Ytjmfdmndchoplaa
open Go Go.RowKit
attribute [local irreducible] wpList wpAnyH Code.wp dOp

def metV (h : LH) : List Int := if validB h = true then orderL h.cells h.roots nn else []
theorem metV_t {h : LH} (hv : validB h = true) : metV h = orderL h.cells h.roots nn := if_pos hv
theorem metV_f {h : LH} (hv : validB h = false) : metV h = [] := if_neg (by simp [hv])
theorem metV_len (h : LH) : (metV h).length ≤ h.cells.length := by
  cases hv : validB h with
  | true => rw [metV_t hv]; exact (orderL_bnd (valid_iff.1 hv).leads).len
  | false => rw [metV_f hv]; exact Nat.zero_le _
theorem reachV_le (h : LH) : (reachV h).length ≤ h.cells.length := by
  cases hv : validB h with
  | true => rw [reachV_len hv]; exact Nat.le_refl _
  | false => rw [reachV_f hv]; exact Nat.zero_le _


end Go.Proofs.Ytjmfdmndchoplaa
