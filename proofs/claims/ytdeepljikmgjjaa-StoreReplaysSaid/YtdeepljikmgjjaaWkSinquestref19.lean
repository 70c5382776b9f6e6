/- That the functions of a package do what their plain functions say. -/
import Derived.Test.YtdeepljikmgjjaaSh
import Derived.Test.YtdeepljikmgjjaaWkSFacts
import Derived.Test.YtdeepljikmgjjaaWkSinquestref08
import Derived.Test.YtdeepljikmgjjaaWkSinquestref18
open Go Go.Av Go.Proofs
set_option linter.unusedVariables false
set_option maxHeartbeats 8000000
set_option maxRecDepth 20000
namespace Wk
end Wk
