/-
  Walks: the work of a copy.
  Conditions: those that each theorem states.
-/
import Derived.Test.YtjmfdmndchoplaaTy
import Derived.Test.YtjmfdmndchoplaaWalkG
import Derived.Test.YtjmfdmndchoplaaSteps
namespace Go.Proofs.Ytjmfdmndchoplaa
open Go Go.RowKit
attribute [local irreducible] wpList wpAnyH Code.wp dOp



end Go.Proofs.Ytjmfdmndchoplaa
