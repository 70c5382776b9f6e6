/- What is known of the functions of the library that sort. -/
import Derived.Test.YtleihjegenjacaaGreatBase1
import Derived.Shelf.SortG.Plain
import Derived.Shelf.SortG.SortNone
import Derived.Test.YtleihjegenjacaaGreatRows
import Derived.KernelRfl
namespace Go.Proofs
open Go.Shelf
end Go.Proofs

open Go Go.Av Go.Proofs
namespace Wk
end Wk
