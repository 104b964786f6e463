/- Formulas of functions. Conditions: none. -/
import Derived.Test.YtonbnfgknijpoaaGgU
import Derived.Test.YtonbnfgknijpoaaWB
import Derived.Test.YtonbnfgknijpoaaWPphases
namespace Go.Gg
def law46_part_W (n : Int) (d : Int) (Q : GRat → Prop) : Prop :=
  ref02_Make_W n d fun r _ =>
  Q r
def law46_example_W (Q : GMission → Prop) : Prop :=
  law46_part_W 1 2 fun r =>
  Q (⟨[(⟨2, [(⟨2, 0, [0, 1]⟩ : GNode)], 2⟩ : GFormula), (⟨2, [(⟨3, 0, [0, 1]⟩ : GNode)], 2⟩ : GFormula)], [[r, r], [r, r]]⟩ : GMission)
def law46_awake_W (Q : Bool → Prop) : Prop :=
  law46_example_W fun r =>
  phases_Fails_W r [1, 2] fun r1 r2 =>
  law46_example_W fun r3 =>
  phases_State_W r3 [1, 2] fun r4 r5 =>
  law46_example_W fun r6 =>
  phases_Weight_W r6 [1, 2] fun r7 r8 =>
  law46_example_W fun r9 =>
  phases_Unfold_W r9 fun r10 _ r12 =>
  condW (Option.isNone r2)
    (condW (Option.isNone r5)
      (condW (Option.isNone r8)
        (condW (Option.isNone r12)
          (condW (r1 == 1)
            (condW (r4 == 2)
              (detW (law46_part_W 1 16) fun r13 =>
              detW (base_Rat_W r7 r13) fun r14 =>
              condW r14
                (condW (r10.Vars == 4)
                  (condW ((r10.Nodes.length : Int) == 5)
                    (Q (r10.Top == 8))
                    (Q false))
                  (Q false))
                (Q false))
              (Q false))
            (Q false))
          (Q false))
        (Q false))
      (Q false))
    (Q false)
def law46_large_W (m : GMission) (Q : Bool → Prop) : Prop :=
  condW (decide (20 < (m.Phases.length : Int)))
    (Q true)
    (condW (decide (50 < (m.P.length : Int)))
      (Q true)
      (loopW (σ := Int) 0 fun i next1 =>
        condW (decide (i < (m.P.length : Int)))
          (((0 : Int) ≤ i ∧ i < (m.P.length : Int)) ∧
          condW (decide (50 < ((at' m.P i).length : Int)))
            (Q true)
            (loopW (σ := Int) 0 fun j next2 =>
              ((0 : Int) ≤ i ∧ i < (m.P.length : Int)) ∧
              condW (decide (j < ((at' m.P i).length : Int)))
                (((0 : Int) ≤ i ∧ i < (m.P.length : Int)) ∧
                ((0 : Int) ≤ j ∧ j < ((at' m.P i).length : Int)) ∧
                condW (decide (4 < (((at' (at' m.P i) j).Num).length : Int)))
                  (Q true)
                  (((0 : Int) ≤ i ∧ i < (m.P.length : Int)) ∧
                  ((0 : Int) ≤ j ∧ j < ((at' m.P i).length : Int)) ∧
                  condW (decide (4 < (((at' (at' m.P i) j).Den).length : Int)))
                    (Q true)
                    (rng (j + 1) ∧
                    next2 (j + 1))))
                (rng (i + 1) ∧
                next1 (i + 1))))
          (Q false)))
end Go.Gg
