/- That the functions of a package do what their plain functions say. -/
import Derived.Test.YtkiiigfefobdlaaDoorSh
import Derived.Test.YtkiiigfefobdlaaDoorWkCFacts
import Derived.Test.YtkiiigfefobdlaaDoorWkCinquestref10
open Go Go.Av Go.Proofs
set_option linter.unusedVariables false
set_option maxHeartbeats 8000000
set_option maxRecDepth 20000
namespace Wk
end Wk
