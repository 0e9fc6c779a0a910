/-
  Walks: the work of a copy.
  Conditions: those that each theorem states.
-/
import Derived.Test.YtdfifnplgbceaabTy
import Derived.Test.YtdfifnplgbceaabWalkG
import Derived.Test.YtdfifnplgbceaabSteps
namespace Go.Proofs.Ytdfifnplgbceaab
open Go Go.RowKit
attribute [local irreducible] wpList wpAnyH Code.wp dOp



end Go.Proofs.Ytdfifnplgbceaab
