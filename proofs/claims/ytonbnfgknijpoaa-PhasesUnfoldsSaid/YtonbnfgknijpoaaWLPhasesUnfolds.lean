/- Formulas of functions. Conditions: none. -/
import Derived.Test.YtonbnfgknijpoaaGgU
import Derived.Test.YtonbnfgknijpoaaWB
import Derived.Test.YtonbnfgknijpoaaWH46
import Derived.Test.YtonbnfgknijpoaaWPphases
import Derived.Test.YtonbnfgknijpoaaWR46
namespace Go.Gg
def law46_PhasesUnfolds_W (m : GMission) (Q : Bool → Prop) : Prop :=
  joinW (α := Bool) (fun next2 =>
    law46_awake_W fun r10 =>
    condW (!r10)
      (next2 true)
      (law46_large_W m fun r11 =>
      next2 r11))
    fun x =>
    condW x
      (law46_awake_W fun r =>
      Q r)
      (phases_Unfold_W m fun r1 r2 r3 =>
      ref46_Check_W m fun code =>
      joinW (α := Int × (List GRat) × GFormula) (fun next1 =>
        condW (code == 0)
          (ref46_Unfold_W m fun r7 r8 r9 =>
          next1 (r9, r8, r7))
          (next1 (code, [], (⟨0, [], 0⟩ : GFormula))))
        fun ⟨code1, wp, x1⟩ =>
        base_Num_W r3 fun r4 =>
        condW (r4 == code1)
          (base_Formula_W r1 x1 fun r5 =>
          condW r5
            (base_Rats_W r2 wp fun r6 =>
            Q r6)
            (Q false))
          (Q false))
end Go.Gg
