/- Formulas of functions. Conditions: none. -/
import Derived.Test.YtonbnfgknijpoaaGgU
import Derived.Test.YtonbnfgknijpoaaWB
import Derived.Test.YtonbnfgknijpoaaWH45
import Derived.Test.YtonbnfgknijpoaaWPcommon
import Derived.Test.YtonbnfgknijpoaaWR45
namespace Go.Gg
def law45_CommonGreek_W (p : GRat) (factors : List GRat) (Q : Bool → Prop) : Prop :=
  joinW (α := Bool) (fun next1 =>
    law45_awake_W fun r7 =>
    condW (!r7)
      (next1 true)
      (law45_short_W [p] fun r8 =>
      condW (!r8)
        (next1 true)
        (law45_short_W factors fun r9 =>
        next1 (!r9))))
    fun x =>
    condW x
      (law45_awake_W fun r =>
      Q r)
      (common_Greek_W p factors fun r1 r2 =>
      ref45_Greek_W p factors fun r3 r4 =>
      base_Num_W r2 fun r5 =>
      condW (r5 == r4)
        (base_Rats_W r1 r3 fun r6 =>
        Q r6)
        (Q false))
end Go.Gg
