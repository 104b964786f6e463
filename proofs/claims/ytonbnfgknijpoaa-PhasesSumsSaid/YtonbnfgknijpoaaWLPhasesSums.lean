/- Formulas of functions. Conditions: none. -/
import Derived.Test.YtonbnfgknijpoaaGgU
import Derived.Test.YtonbnfgknijpoaaWB
import Derived.Test.YtonbnfgknijpoaaWH46
import Derived.Test.YtonbnfgknijpoaaWPphases
import Derived.Test.YtonbnfgknijpoaaWR46
namespace Go.Gg
def law46_PhasesSums_W (m : GMission) (Q : Bool → Prop) : Prop :=
  joinW (α := Bool) (fun next3 =>
    law46_awake_W fun r9 =>
    condW (!r9)
      (next3 true)
      (law46_large_W m fun r10 =>
      condW r10
        (next3 true)
        (ref46_Check_W m fun r11 =>
        next3 (r11 != 0))))
    fun x =>
    condW x
      (law46_awake_W fun r =>
      Q r)
      (loopW (σ := Int × Int) (1, 0) fun ⟨n, i⟩ next1 =>
        ref46_Events_W m fun r1 =>
        condW (decide (i < r1))
          (rng ((m.Phases.length : Int) + 1) ∧
          rng (n * ((m.Phases.length : Int) + 1)) ∧
          rng (i + 1) ∧
          next1 ((n * ((m.Phases.length : Int) + 1)), (i + 1)))
          (condW (decide (300 < n))
            (Q true)
            (detW (ref46_Events_W m) fun r2 =>
            detW (ref46_Histories_W r2 (m.Phases.length : Int)) fun l =>
            loopW (σ := Int × GRat) (0, (⟨false, [], []⟩ : GRat)) fun ⟨i1, x1⟩ next2 =>
              condW (decide (i1 < (l.length : Int)))
                (((0 : Int) ≤ i1 ∧ i1 < (l.length : Int)) ∧
                detW2 (phases_Weight_W m (at' l i1)) fun r3 r4 =>
                condW (Option.isSome r4)
                  (Q false)
                  (ref02_Sign_W r3 fun r5 =>
                  condW (decide (r5 < 0))
                    (Q false)
                    (ref02_Add_W x1 r3 fun r6 =>
                    rng (i1 + 1) ∧
                    next2 ((i1 + 1), r6))))
                (detW (ref02_Of_W 1) fun r7 =>
                detW (ref02_Cmp_W x1 r7) fun r8 =>
                Q (r8 == 0)))))
end Go.Gg
