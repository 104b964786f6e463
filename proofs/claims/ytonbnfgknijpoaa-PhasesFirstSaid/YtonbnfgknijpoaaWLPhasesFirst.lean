/- Formulas of functions. Conditions: none. -/
import Derived.Test.YtonbnfgknijpoaaGgU
import Derived.Test.YtonbnfgknijpoaaWB
import Derived.Test.YtonbnfgknijpoaaWF
import Derived.Test.YtonbnfgknijpoaaWH46
import Derived.Test.YtonbnfgknijpoaaWPphases
import Derived.Test.YtonbnfgknijpoaaWR46
namespace Go.Gg
def law46_PhasesFirst_W (m : GMission) (state : Int) (Q : Bool → Prop) : Prop :=
  joinW (α := Bool) (fun next4 =>
    law46_awake_W fun r9 =>
    condW (!r9)
      (next4 true)
      (law46_large_W m fun r10 =>
      condW r10
        (next4 true)
        (ref46_Check_W m fun r11 =>
        next4 (r11 != 0))))
    fun x =>
    condW x
      (law46_awake_W fun r =>
      Q r)
      (detW (ref46_Events_W m) fun n =>
      condW (decide (state < 0))
        (Q true)
        (rng (n * (m.Phases.length : Int)) ∧
        (((0 : Int) ≤ (n * (m.Phases.length : Int)) ∧ (n * (m.Phases.length : Int)) ≤ 64) ∧ rng (1 * 2 ^ (Int.toNat (n * (m.Phases.length : Int))))) ∧
        condW (decide ((1 * 2 ^ (Int.toNat (n * (m.Phases.length : Int)))) ≤ state))
          (Q true)
          (phases_Unfold_W m fun r1 _ r3 =>
          condW (Option.isSome r3)
            (base_Is_W r3 4 fun r4 =>
            Q r4)
            (loopW (σ := Int × (List Int)) (0, []) fun ⟨i, h1⟩ next1 =>
              condW (decide (i < n))
                (joinW (α := Int) (fun next2 =>
                  loopW (σ := Int) 0 fun j1 next3 =>
                    condW (decide (j1 < (m.Phases.length : Int)))
                      (rng (i * (m.Phases.length : Int)) ∧
                      rng ((i * (m.Phases.length : Int)) + j1) ∧
                      ((0 : Int) ≤ ((i * (m.Phases.length : Int)) + j1) ∧ ((i * (m.Phases.length : Int)) + j1) ≤ 64) ∧
                      condW ((bits .and .i64 (state / 2 ^ (Int.toNat ((i * (m.Phases.length : Int)) + j1))) 1) == 0)
                        (rng (j1 + 1) ∧
                        next3 (j1 + 1))
                        (next2 j1))
                      (next2 j1))
                  fun j =>
                  ((h1 ++ [j]).length * 8 ≤ 140737488355328) ∧
                  rng (i + 1) ∧
                  next1 ((i + 1), (h1 ++ [j])))
                (phases_Fails_W m h1 fun r5 r6 =>
                formula_Value_W r1 state fun r7 r8 =>
                condW (Option.isNone r6)
                  (condW (Option.isNone r8)
                    (Q (r7 == (decide (r5 < (m.Phases.length : Int)))))
                    (Q false))
                  (Q false))))))
end Go.Gg
