/- Loops over functions: the round, the iterator's contract, the statement. Conditions: none. -/
import Derived.Test.YtnjgdkfhgmebjaaGreatGd
namespace Go.Gg
open Go.RowKit (Below)
end Go.Gg
