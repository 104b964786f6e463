/- Formulas of functions. Conditions: none. -/
import Derived.Test.YtonbnfgknijpoaaGgU
import Derived.Test.YtonbnfgknijpoaaWB
import Derived.Test.YtonbnfgknijpoaaWH46
import Derived.Test.YtonbnfgknijpoaaWPphases
import Derived.Test.YtonbnfgknijpoaaWR33
import Derived.Test.YtonbnfgknijpoaaWR46
namespace Go.Gg
def law46_PhasesGrows_W (m : GMission) (h1 : List Int) (later : List Int) (Q : Bool → Prop) : Prop :=
  joinW (α := Bool) (fun next5 =>
    law46_awake_W fun r9 =>
    condW (!r9)
      (next5 true)
      (law46_large_W m fun r10 =>
      condW r10
        (next5 true)
        (condW (decide (100 < (h1.length : Int)))
          (next5 true)
          (ref46_CheckHistory_W m h1 fun r11 =>
          next5 (r11 != 0)))))
    fun x =>
    condW x
      (law46_awake_W fun r =>
      Q r)
      (loopW (σ := Int × Int) (0, 0) fun ⟨before, j⟩ next1 =>
        condW (decide (j < (m.Phases.length : Int)))
          (phases_Failed_W m h1 j fun r1 r2 =>
          condW (Option.isSome r2)
            (Q false)
            (condW ((bits .andNot .i64 before r1) != 0)
              (Q false)
              (rng (j + 1) ∧
              next1 (r1, (j + 1)))))
          (loopW (σ := Int) 0 fun j1 next2 =>
            condW (decide (j1 < (m.Phases.length : Int)))
              (((0 : Int) ≤ j1 ∧ j1 < (m.Phases.length : Int)) ∧
              ref33_Coherent_W (at' m.Phases j1) fun r3 =>
              condW (!r3)
                (Q true)
                (rng (j1 + 1) ∧
                next2 (j1 + 1)))
              ((([] ++ h1).length * 8 ≤ 140737488355328) ∧
              joinW (α := (List Int)) (fun next3 =>
                loopW (σ := Int × (List Int)) (0, ([] ++ h1)) fun ⟨i, l1⟩ next4 =>
                  condW (decide (i < (l1.length : Int)))
                    (condW (decide (i < (later.length : Int)))
                      (((0 : Int) ≤ i ∧ i < (l1.length : Int)) ∧
                      ((0 : Int) ≤ i ∧ i < (later.length : Int)) ∧
                      detW (base_Clip_W (max (at' l1 i) (at' later i)) 0 (m.Phases.length : Int)) fun r8 =>
                      ((0 : Int) ≤ i ∧ i < (l1.length : Int)) ∧
                      rng (i + 1) ∧
                      next4 ((i + 1), (set' l1 i r8)))
                      (next3 l1))
                    (next3 l1))
                fun l =>
                phases_Fails_W m h1 fun r4 r5 =>
                phases_Fails_W m l fun r6 r7 =>
                condW (Option.isNone r5)
                  (condW (Option.isNone r7)
                    (Q (decide (r4 ≤ r6)))
                    (Q false))
                  (Q false))))
end Go.Gg
