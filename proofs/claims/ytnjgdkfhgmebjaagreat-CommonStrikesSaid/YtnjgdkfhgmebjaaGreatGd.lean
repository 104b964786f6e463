/- An own logic over the kit's weakest preconditions, part Z: clear, copy, rows cut short. Conditions: none. -/
import Derived.Test.YtnjgdkfhgmebjaaGreatGd0
namespace Go.Gg
open Go.RowKit (Below)
section
variable {P:Program} {G:Ghost} {S:St} {w:World}
end
end Go.Gg
