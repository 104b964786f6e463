/- Formulas of functions. Conditions: none. -/
import Derived.Test.YtonbnfgknijpoaaGgU
import Derived.Test.YtonbnfgknijpoaaWB
import Derived.Test.YtonbnfgknijpoaaWH50
import Derived.Test.YtonbnfgknijpoaaWPproduct
import Derived.Test.YtonbnfgknijpoaaWR50
import Derived.Test.YtonbnfgknijpoaaWS
namespace Go.Gg
def law50_ProductSums_W (dist : List GRat) (i : Int) (f : GFormula) (Q : Bool → Prop) : Prop :=
  joinW (α := Bool) (fun next1 =>
    law50_awake_W fun r13 =>
    condW (!r13)
      (next1 true)
      (law50_short_W dist 300 fun r14 =>
      condW (!r14)
        (next1 true)
        (law08_Light_W f fun r15 =>
        next1 (!r15))))
    fun x =>
    condW x
      (law50_awake_W fun r =>
      Q r)
      (product_Marginal_W dist i fun r1 r2 =>
      product_Down_W dist f fun r3 r4 =>
      ref50_Marginal_W dist i fun r5 r6 =>
      ref50_Down_W dist f fun r7 r8 =>
      base_Num_W r2 fun r9 =>
      condW (r9 == r6)
        (base_Rat_W r1 r5 fun r10 =>
        condW r10
          (base_Num_W r4 fun r11 =>
          condW (r11 == r8)
            (base_Rat_W r3 r7 fun r12 =>
            Q r12)
            (Q false))
          (Q false))
        (Q false))
end Go.Gg
