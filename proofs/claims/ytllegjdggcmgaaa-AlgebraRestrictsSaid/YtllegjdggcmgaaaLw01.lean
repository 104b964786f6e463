/- Chapter 16: the functions of one diagram, the program's and the reference's. Conditions: none. -/
import Derived.Test.YtllegjdggcmgaaaMb
import Derived.Test.YtllegjdggcmgaaaWa
/- Chapter 16: the functions of one diagram, the program's and the reference's. Conditions: none. -/
namespace Go.Gg
end Go.Gg
