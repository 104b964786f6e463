/- Facts of the whole program that look at the dump's head. Conditions: none. -/
import Derived.Test.YtbnjpdocceckeaaGreatRows
import Derived.KernelRfl
import Derived.JoinedOf
set_option linter.all false
/- Facts of the whole program that look at the dump's head. Conditions: none. -/
namespace Go.Proofs.YtbnjpdocceckeaaGreat
open Go
end Go.Proofs.YtbnjpdocceckeaaGreat
