/- Joined of my own texts: SeT. -/
import Derived.Test.YtinolpaapcpijaaGreatDoorW18
import Derived.Sort.Walk0
import Derived.Lib.SlicesCompact
namespace Go.Sy
open Go Go.Proofs
theorem bs_irr (a : List UInt8) : ¬ a < a := List.lt_irrefl a
end Go.Sy
