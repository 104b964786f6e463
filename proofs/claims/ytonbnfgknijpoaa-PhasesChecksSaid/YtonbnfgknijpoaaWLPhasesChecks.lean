/- Formulas of functions. Conditions: none. -/
import Derived.Test.YtonbnfgknijpoaaGgU
import Derived.Test.YtonbnfgknijpoaaWB
import Derived.Test.YtonbnfgknijpoaaWH46
import Derived.Test.YtonbnfgknijpoaaWPphases
import Derived.Test.YtonbnfgknijpoaaWR46
namespace Go.Gg
def law46_PhasesChecks_W (m : GMission) (h1 : List Int) (Q : Bool → Prop) : Prop :=
  joinW (α := Bool) (fun next1 =>
    law46_awake_W fun r7 =>
    condW (!r7)
      (next1 true)
      (law46_large_W m fun r8 =>
      condW r8
        (next1 true)
        (next1 (decide (100 < (h1.length : Int))))))
    fun x =>
    condW x
      (law46_awake_W fun r =>
      Q r)
      (detW (phases_Check_W m) fun r1 =>
      detW (base_Num_W r1) fun r2 =>
      detW (ref46_Check_W m) fun r3 =>
      condW (r2 == r3)
        (detW (phases_CheckHistory_W m h1) fun r4 =>
        detW (base_Num_W r4) fun r5 =>
        detW (ref46_CheckHistory_W m h1) fun r6 =>
        Q (r5 == r6))
        (Q false))
end Go.Gg
