/- Formulas of functions. Conditions: none. -/
import Derived.Test.YtonbnfgknijpoaaGgU
import Derived.Test.YtonbnfgknijpoaaWB
import Derived.Test.YtonbnfgknijpoaaWH46
import Derived.Test.YtonbnfgknijpoaaWPphases
import Derived.Test.YtonbnfgknijpoaaWR46
namespace Go.Gg
def law46_PhasesReads_W (m : GMission) (h1 : List Int) (j : Int) (Q : Bool → Prop) : Prop :=
  joinW (α := Bool) (fun next2 =>
    law46_awake_W fun r20 =>
    condW (!r20)
      (next2 true)
      (law46_large_W m fun r21 =>
      condW r21
        (next2 true)
        (next2 (decide (100 < (h1.length : Int))))))
    fun x =>
    condW x
      (law46_awake_W fun r =>
      Q r)
      (phases_Failed_W m h1 j fun r1 r2 =>
      phases_Fails_W m h1 fun r3 r4 =>
      phases_Weight_W m h1 fun r5 r6 =>
      phases_State_W m h1 fun r7 r8 =>
      ref46_CheckHistory_W m h1 fun code =>
      condW (code != 0)
        (condW (r1 == 0)
          (condW (r3 == 0)
            (condW (r7 == 0)
              (base_Rat_W r5 (⟨false, [], []⟩ : GRat) fun r9 =>
              condW r9
                (base_Num_W r2 fun r10 =>
                condW (r10 == code)
                  (base_Num_W r4 fun r11 =>
                  condW (r11 == code)
                    (base_Num_W r6 fun r12 =>
                    condW (r12 == code)
                      (base_Num_W r8 fun r13 =>
                      Q (r13 == code))
                      (Q false))
                    (Q false))
                  (Q false))
                (Q false))
              (Q false))
            (Q false))
          (Q false))
        (condW (Option.isSome r4)
          (Q false)
          (condW (Option.isSome r6)
            (Q false)
            (condW (Option.isSome r8)
              (Q false)
              (detW (ref46_Fails_W m h1) fun r14 =>
              condW (r3 != r14)
                (Q false)
                (detW (ref46_State_W m h1) fun r15 =>
                condW (r7 != r15)
                  (Q false)
                  (detW (ref46_Weight_W m h1) fun r16 =>
                  detW (base_Rat_W r5 r16) fun r17 =>
                  condW (!r17)
                    (Q false)
                    (joinW (α := Bool) (fun next1 =>
                      condW (decide (j < 0))
                        (next1 true)
                        (next1 (decide ((m.Phases.length : Int) ≤ j))))
                      fun x1 =>
                      condW x1
                        (condW (r1 == 0)
                          (base_Is_W r2 10 fun r18 =>
                          Q r18)
                          (Q false))
                        (condW (Option.isNone r2)
                          (ref46_Failed_W h1 j fun r19 =>
                          Q (r1 == r19))
                          (Q false))))))))))
end Go.Gg
