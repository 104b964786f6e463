/- Formulas of functions. Conditions: none. -/
import Derived.Test.YtonbnfgknijpoaaGgU
import Derived.Test.YtonbnfgknijpoaaWB
import Derived.Test.YtonbnfgknijpoaaWF
import Derived.Test.YtonbnfgknijpoaaWH46
import Derived.Test.YtonbnfgknijpoaaWPphases
import Derived.Test.YtonbnfgknijpoaaWR46
namespace Go.Gg
def law46_PhasesHolds_W (m : GMission) (h1 : List Int) (Q : Bool → Prop) : Prop :=
  joinW (α := Bool) (fun next1 =>
    law46_awake_W fun r11 =>
    condW (!r11)
      (next1 true)
      (law46_large_W m fun r12 =>
      condW r12
        (next1 true)
        (condW (decide (100 < (h1.length : Int)))
          (next1 true)
          (ref46_CheckHistory_W m h1 fun r13 =>
          next1 (r13 != 0)))))
    fun x =>
    condW x
      (law46_awake_W fun r =>
      Q r)
      (phases_Unfold_W m fun r1 _ r3 =>
      condW (Option.isSome r3)
        (base_Is_W r3 4 fun r4 =>
        Q r4)
        (phases_Fails_W m h1 fun r5 r6 =>
        phases_State_W m h1 fun r7 r8 =>
        formula_Value_W r1 r7 fun r9 r10 =>
        condW (Option.isNone r6)
          (condW (Option.isNone r8)
            (condW (Option.isNone r10)
              (Q (r9 == (decide (r5 < (m.Phases.length : Int)))))
              (Q false))
            (Q false))
          (Q false)))
end Go.Gg
