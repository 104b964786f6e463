/- Formulas of functions. Conditions: none. -/
import Derived.Test.YtonbnfgknijpoaaGgU
import Derived.Test.YtonbnfgknijpoaaWB
import Derived.Test.YtonbnfgknijpoaaWH50
import Derived.Test.YtonbnfgknijpoaaWPchain
import Derived.Test.YtonbnfgknijpoaaWPproduct
import Derived.Test.YtonbnfgknijpoaaWR50
import Derived.Test.YtonbnfgknijpoaaWS
namespace Go.Gg
def law50_ProductChains_W (x : GRates) (f : GFormula) (Q : Bool → Prop) : Prop :=
  joinW (α := Bool) (fun next1 =>
    law50_awake_W fun r8 =>
    condW (!r8)
      (next1 true)
      (law50_short_W x.Fail 20 fun r9 =>
      condW (!r9)
        (next1 true)
        (law50_short_W x.Repair 20 fun r10 =>
        condW (!r10)
          (next1 true)
          (law08_Light_W f fun r11 =>
          next1 (!r11)))))
    fun x1 =>
    condW x1
      (law50_awake_W fun r =>
      Q r)
      (product_Chain_W x.Fail x.Repair f fun r1 r2 =>
      ref50_Chain_W x.Fail x.Repair f fun r3 r4 =>
      base_Num_W r2 fun r5 =>
      condW (r5 == r4)
        (base_Chain_W r1 r3 fun r6 =>
        condW r6
          (condW (r4 != 0)
            (Q true)
            (chain_Check_W r1 fun r7 =>
            Q (Option.isNone r7)))
          (Q false))
        (Q false))
end Go.Gg
