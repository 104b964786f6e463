/- Formulas of functions. Conditions: none. -/
import Derived.Test.YtonbnfgknijpoaaGgU
import Derived.Test.YtonbnfgknijpoaaWB
import Derived.Test.YtonbnfgknijpoaaWPcommon
import Derived.Test.YtonbnfgknijpoaaWS
namespace Go.Gg
def law45_part_W (n : Int) (d : Int) (Q : GRat → Prop) : Prop :=
  ref02_Make_W n d fun r _ =>
  Q r
def law45_awake_W (Q : Bool → Prop) : Prop :=
  law45_part_W 1 10 fun r =>
  law45_part_W 1 2 fun r1 =>
  common_Beta_W r r1 fun r2 r3 r4 =>
  ref02_Of_W 1 fun r5 =>
  law45_part_W 1 2 fun r6 =>
  law45_part_W 1 3 fun r7 =>
  common_Greek_W r5 [r6, r7] fun r8 r9 =>
  condW (Option.isNone r4)
    (condW (Option.isNone r9)
      (detW (law45_part_W 1 19) fun r10 =>
      detW (base_Rat_W r2 r10) fun r11 =>
      condW r11
        (detW (law45_part_W 1 20) fun r12 =>
        detW (base_Rat_W r3 r12) fun r13 =>
        condW r13
          (detW (law45_part_W 1 2) fun r14 =>
          detW (law45_part_W 1 6) fun r15 =>
          detW (law45_part_W 1 6) fun r16 =>
          detW (base_Rats_W r8 [r14, r15, r16]) fun r17 =>
          Q r17)
          (Q false))
        (Q false))
      (Q false))
    (Q false)
def law45_short_W (l : List GRat) (Q : Bool → Prop) : Prop :=
  loopW (σ := Int) 0 fun x next1 =>
    condW (decide (x < (l.length : Int)))
      (((0 : Int) ≤ x ∧ x < (l.length : Int)) ∧
      law22_Short_W (at' l x) fun r =>
      condW (!r)
        (Q false)
        (rng (x + 1) ∧
        next1 (x + 1)))
      (Q (decide ((l.length : Int) ≤ 60)))
end Go.Gg
