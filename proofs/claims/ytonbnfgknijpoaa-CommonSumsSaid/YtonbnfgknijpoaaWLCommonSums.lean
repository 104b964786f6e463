/- Formulas of functions. Conditions: none. -/
import Derived.Test.YtonbnfgknijpoaaGgU
import Derived.Test.YtonbnfgknijpoaaWB
import Derived.Test.YtonbnfgknijpoaaWH45
import Derived.Test.YtonbnfgknijpoaaWPcommon
namespace Go.Gg
def law45_CommonSums_W (p : GRat) (factors : List GRat) (Q : Bool → Prop) : Prop :=
  joinW (α := Bool) (fun next2 =>
    law45_awake_W fun r8 =>
    condW (!r8)
      (next2 true)
      (law45_short_W [p] fun r9 =>
      condW (!r9)
        (next2 true)
        (law45_short_W factors fun r10 =>
        next2 (!r10))))
    fun x =>
    condW x
      (law45_awake_W fun r =>
      Q r)
      (common_Greek_W p factors fun r1 r2 =>
      condW (Option.isSome r2)
        (Q ((r1.length : Int) == 0))
        (common_Total_W r1 fun r3 r4 =>
        condW (Option.isSome r4)
          (Q false)
          (rng ((factors.length : Int) + 1) ∧
          condW ((r1.length : Int) != ((factors.length : Int) + 1))
            (Q false)
            (loopW (σ := Int) 0 fun x1 next1 =>
              condW (decide (x1 < (r1.length : Int)))
                (((0 : Int) ≤ x1 ∧ x1 < (r1.length : Int)) ∧
                rational_Prob_W (at' r1 x1) fun r5 =>
                condW (!r5)
                  (Q false)
                  (rational_Cmp_W (at' r1 x1) p fun r6 =>
                  condW (decide (0 < r6))
                    (Q false)
                    (rng (x1 + 1) ∧
                    next1 (x1 + 1))))
                (rational_Cmp_W r3 p fun r7 =>
                Q (r7 == 0))))))
end Go.Gg
