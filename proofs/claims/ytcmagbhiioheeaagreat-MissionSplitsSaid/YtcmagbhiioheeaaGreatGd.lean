/- An own logic over the kit's weakest preconditions, part Z: clear, copy, rows cut short. Conditions: none. -/
import Derived.Test.YtcmagbhiioheeaaGreatGd0
namespace Go.Gg
open Go.RowKit (Below)
section
variable {P:Program} {G:Ghost} {S:St} {w:World}
end
def fr {α:Type} (s:List α) (i:Int) (v:List α):List α:=s.take i.toNat++v++s.drop i.toNat
end Go.Gg
