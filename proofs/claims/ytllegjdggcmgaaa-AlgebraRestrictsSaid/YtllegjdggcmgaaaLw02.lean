/- Chapter 16: the functions of two diagrams, the program's and the reference's. Conditions: none. -/
import Derived.Test.YtllegjdggcmgaaaLw01
import Derived.Test.YtllegjdggcmgaaaWa
/- Chapter 16: the functions of two diagrams, the program's and the reference's. Conditions: none. -/
namespace Go.Gg
end Go.Gg
