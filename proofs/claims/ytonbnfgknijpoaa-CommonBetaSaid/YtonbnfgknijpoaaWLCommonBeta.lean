/- Formulas of functions. Conditions: none. -/
import Derived.Test.YtonbnfgknijpoaaGgU
import Derived.Test.YtonbnfgknijpoaaWB
import Derived.Test.YtonbnfgknijpoaaWH45
import Derived.Test.YtonbnfgknijpoaaWPcommon
import Derived.Test.YtonbnfgknijpoaaWR45
namespace Go.Gg
def law45_CommonBeta_W (p : GRat) (beta : GRat) (q : List GRat) (Q : Bool → Prop) : Prop :=
  joinW (α := Bool) (fun next1 =>
    law45_awake_W fun r16 =>
    condW (!r16)
      (next1 true)
      (law45_short_W [p, beta] fun r17 =>
      condW (!r17)
        (next1 true)
        (law45_short_W q fun r18 =>
        next1 (!r18))))
    fun x =>
    condW x
      (law45_awake_W fun r =>
      Q r)
      (common_Beta_W p beta fun r1 r2 r3 =>
      ref45_Beta_W p beta fun r4 r5 r6 =>
      common_Total_W q fun r7 r8 =>
      ref45_Total_W q fun r9 r10 =>
      base_Num_W r3 fun r11 =>
      condW (r11 == r6)
        (base_Rat_W r1 r4 fun r12 =>
        condW r12
          (base_Rat_W r2 r5 fun r13 =>
          condW r13
            (base_Num_W r8 fun r14 =>
            condW (r14 == r10)
              (base_Rat_W r7 r9 fun r15 =>
              Q r15)
              (Q false))
            (Q false))
          (Q false))
        (Q false))
end Go.Gg
