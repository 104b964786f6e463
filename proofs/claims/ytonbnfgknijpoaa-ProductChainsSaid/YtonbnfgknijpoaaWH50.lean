/- Formulas of functions. Conditions: none. -/
import Derived.Test.YtonbnfgknijpoaaGgU
import Derived.Test.YtonbnfgknijpoaaWB
import Derived.Test.YtonbnfgknijpoaaWPproduct
import Derived.Test.YtonbnfgknijpoaaWS
namespace Go.Gg
def law50_part_W (n : Int) (d : Int) (Q : GRat → Prop) : Prop :=
  ref02_Make_W n d fun r _ =>
  Q r
def law50_awake_W (Q : Bool → Prop) : Prop :=
  law50_part_W 1 1 fun r =>
  law50_part_W 1 1 fun r1 =>
  law50_part_W 3 1 fun r2 =>
  law50_part_W 1 1 fun r3 =>
  product_Stationary_W [r, r1] [r2, r3] fun r4 r5 =>
  condW (Option.isNone r5)
    (law50_part_W 3 8 fun r6 =>
    law50_part_W 1 8 fun r7 =>
    law50_part_W 3 8 fun r8 =>
    law50_part_W 1 8 fun r9 =>
    base_Rats_W r4 [r6, r7, r8, r9] fun r10 =>
    Q r10)
    (Q false)
def law50_short_W (l : List GRat) (most : Int) (Q : Bool → Prop) : Prop :=
  loopW (σ := Int) 0 fun x next1 =>
    condW (decide (x < (l.length : Int)))
      (((0 : Int) ≤ x ∧ x < (l.length : Int)) ∧
      law49_Brief_W (at' l x) (l.length : Int) fun r =>
      condW (!r)
        (Q false)
        (rng (x + 1) ∧
        next1 (x + 1)))
      (Q (decide ((l.length : Int) ≤ most)))
end Go.Gg
