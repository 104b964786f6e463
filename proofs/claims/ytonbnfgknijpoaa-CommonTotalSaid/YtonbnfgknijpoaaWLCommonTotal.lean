/- Formulas of functions. Conditions: none. -/
import Derived.Test.YtonbnfgknijpoaaGgU
import Derived.Test.YtonbnfgknijpoaaWB
import Derived.Test.YtonbnfgknijpoaaWH45
import Derived.Test.YtonbnfgknijpoaaWPcommon
namespace Go.Gg
def law45_CommonTotal_W (p : GRat) (beta : GRat) (Q : Bool → Prop) : Prop :=
  joinW (α := Bool) (fun next2 =>
    law45_awake_W fun r19 =>
    condW (!r19)
      (next2 true)
      (law45_short_W [p, beta] fun r20 =>
      next2 (!r20)))
    fun x =>
    condW x
      (law45_awake_W fun r =>
      Q r)
      (common_Beta_W p beta fun r1 r2 r3 =>
      condW (Option.isSome r3)
        (rational_Prob_W p fun r4 =>
        condW (!r4)
          (Q true)
          (rational_Prob_W beta fun r5 =>
          Q (!r5)))
        (rational_Of_W 1 fun r6 =>
        detW (rational_Sub_W r6 r1) fun r7 =>
        detW (rational_Sub_W r6 r2) fun r8 =>
        detW (rational_Mul_W r7 r8) fun r9 =>
        detW (rational_Prob_W r1) fun r10 =>
        condW (!r10)
          (Q false)
          (detW (rational_Prob_W r2) fun r11 =>
          condW (!r11)
            (Q false)
            (detW (rational_Sub_W r6 r9) fun r12 =>
            detW (rational_Cmp_W r12 p) fun r13 =>
            condW (r13 != 0)
              (Q false)
              (joinW (α := Unit) (fun next1 =>
                rational_Sign_W beta fun r17 =>
                condW (r17 == 0)
                  (rational_Sign_W r2 fun r18 =>
                  condW (r18 != 0)
                    (Q false)
                    (next1 ()))
                  (next1 ()))
                fun _ =>
                rational_Cmp_W beta r6 fun r14 =>
                condW (r14 != 0)
                  (Q true)
                  (rational_Sign_W r1 fun r15 =>
                  condW (r15 == 0)
                    (rational_Cmp_W r2 p fun r16 =>
                    Q (r16 == 0))
                    (Q false)))))))
end Go.Gg
