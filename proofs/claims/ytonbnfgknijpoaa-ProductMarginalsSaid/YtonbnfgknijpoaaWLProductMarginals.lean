/- Formulas of functions. Conditions: none. -/
import Derived.Test.YtonbnfgknijpoaaGgU
import Derived.Test.YtonbnfgknijpoaaWB
import Derived.Test.YtonbnfgknijpoaaWH50
import Derived.Test.YtonbnfgknijpoaaWPproduct
namespace Go.Gg
def law50_ProductMarginals_W (x : GRates) (i : Int) (Q : Bool → Prop) : Prop :=
  joinW (α := Bool) (fun next2 =>
    law50_awake_W fun r8 =>
    condW (!r8)
      (next2 true)
      (law50_short_W x.Fail 8 fun r9 =>
      condW (!r9)
        (next2 true)
        (law50_short_W x.Repair 8 fun r10 =>
        next2 (!r10))))
    fun x1 =>
    condW x1
      (law50_awake_W fun r =>
      Q r)
      (product_Stationary_W x.Fail x.Repair fun r1 r2 =>
      joinW (α := Bool) (fun next1 =>
        condW (Option.isSome r2)
          (next1 true)
          (next1 ((x.Fail.length : Int) == 0)))
        fun x2 =>
        condW x2
          (Q ((r1.length : Int) == 0))
          ((x.Fail.length : Int) ≠ 0 ∧
          setW (Int.tmod (IntKind.wrap .i64 i) (x.Fail.length : Int)) fun k1 =>
          product_Marginal_W r1 k1 fun r3 r4 =>
          ((0 : Int) ≤ k1 ∧ k1 < (x.Fail.length : Int)) ∧
          ((0 : Int) ≤ k1 ∧ k1 < (x.Repair.length : Int)) ∧
          detW2 (product_Unavailable_W (at' x.Fail k1) (at' x.Repair k1)) fun r5 r6 =>
          condW (Option.isNone r4)
            (condW (Option.isNone r6)
              (rational_Cmp_W r3 r5 fun r7 =>
              Q (r7 == 0))
              (Q false))
            (Q false)))
end Go.Gg
