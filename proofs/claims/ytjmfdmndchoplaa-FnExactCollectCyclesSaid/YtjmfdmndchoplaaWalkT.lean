/-
  Walks: lists of cells in ascending order, and their new numbers.
  Conditions: those that each theorem states.
-/
import Derived.Test.YtjmfdmndchoplaaTy
import Derived.Test.YtjmfdmndchoplaaWalkQ
import Derived.Test.YtjmfdmndchoplaaWalkS
import Derived.Test.YtjmfdmndchoplaaSlide
namespace Go.Proofs.Ytjmfdmndchoplaa
open Go Go.RowKit
attribute [local irreducible] wpList wpAnyH Code.wp dOp



end Go.Proofs.Ytjmfdmndchoplaa
