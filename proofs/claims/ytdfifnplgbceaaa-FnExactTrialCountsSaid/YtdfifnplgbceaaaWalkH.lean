/-
  Walks: the work of a copy.
  Conditions: those that each theorem states.
-/
import Derived.Test.YtdfifnplgbceaaaTy
import Derived.Test.YtdfifnplgbceaaaWalkG
import Derived.Test.YtdfifnplgbceaaaSteps
namespace Go.Proofs.Ytdfifnplgbceaaa
open Go Go.RowKit
attribute [local irreducible] wpList wpAnyH Code.wp dOp



end Go.Proofs.Ytdfifnplgbceaaa
