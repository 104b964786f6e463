/- Formulas of functions. Conditions: none. -/
import Derived.Test.YtonbnfgknijpoaaGgU
import Derived.Test.YtonbnfgknijpoaaWB
import Derived.Test.YtonbnfgknijpoaaWF
import Derived.Test.YtonbnfgknijpoaaWH50
import Derived.Test.YtonbnfgknijpoaaWPproduct
import Derived.Test.YtonbnfgknijpoaaWS
namespace Go.Gg
def law50_ProductDown_W (x : GRates) (f : GFormula) (Q : Bool → Prop) : Prop :=
  joinW (α := Bool) (fun next3 =>
    law50_awake_W fun r24 =>
    condW (!r24)
      (next3 true)
      (law50_short_W x.Fail 5 fun r25 =>
      condW (!r25)
        (next3 true)
        (law50_short_W x.Repair 5 fun r26 =>
        condW (!r26)
          (next3 true)
          (law08_Light_W f fun r27 =>
          condW (!r27)
            (next3 true)
            (formula_Check_W f fun r28 =>
            condW (Option.isSome r28)
              (next3 true)
              (condW (f.Vars != (x.Fail.length : Int))
                (next3 true)
                (next3 (decide (128 ≤ (f.Nodes.length : Int))))))))))
    fun x1 =>
    condW x1
      (law50_awake_W fun r =>
      Q r)
      (product_Stationary_W x.Fail x.Repair fun r1 r2 =>
      condW (Option.isSome r2)
        (Q ((r1.length : Int) == 0))
        ((([] ++ f.Nodes).length * 40 ≤ 140737488355328) ∧
        ((([] ++ f.Nodes) ++ [(⟨1, 0, [f.Top]⟩ : GNode)]).length * 40 ≤ 140737488355328) ∧
        rng ((x.Fail.length : Int) + (f.Nodes.length : Int)) ∧
        product_Down_W r1 f fun r3 r4 =>
        product_Down_W r1 (⟨(x.Fail.length : Int), (([] ++ f.Nodes) ++ [(⟨1, 0, [f.Top]⟩ : GNode)]), ((x.Fail.length : Int) + (f.Nodes.length : Int))⟩ : GFormula) fun r5 r6 =>
        condW (Option.isSome r4)
          (Q false)
          (condW (Option.isSome r6)
            (Q false)
            (rational_Add_W r3 r5 fun r7 =>
            rational_Of_W 1 fun r8 =>
            rational_Cmp_W r7 r8 fun r9 =>
            condW (r9 != 0)
              (Q false)
              (rng ((x.Fail.length : Int) - 1) ∧
              ((0 : Int) ≤ ((x.Fail.length : Int) - 1) ∧ ((x.Fail.length : Int) - 1) < (x.Fail.length : Int)) ∧
              rng ((x.Fail.length : Int) - 1) ∧
              ((0 : Int) ≤ ((x.Fail.length : Int) - 1) ∧ ((x.Fail.length : Int) - 1) < (x.Repair.length : Int)) ∧
              detW2 (product_Unavailable_W (at' x.Fail ((x.Fail.length : Int) - 1)) (at' x.Repair ((x.Fail.length : Int) - 1))) fun r10 r11 =>
              condW (Option.isSome r11)
                (Q false)
                (condW (decide ((x.Fail.length : Int) < 2))
                  (Q true)
                  (rng ((x.Fail.length : Int) - 1) ∧
                  ((0 : Int) ≤ 0 ∧ 0 ≤ ((x.Fail.length : Int) - 1) ∧ ((x.Fail.length : Int) - 1) ≤ (x.Fail.length : Int)) ∧
                  rng ((x.Fail.length : Int) - 1) ∧
                  ((0 : Int) ≤ 0 ∧ 0 ≤ ((x.Fail.length : Int) - 1) ∧ ((x.Fail.length : Int) - 1) ≤ (x.Repair.length : Int)) ∧
                  detW2 (product_Stationary_W (sub' x.Fail 0 ((x.Fail.length : Int) - 1)) (sub' x.Repair 0 ((x.Fail.length : Int) - 1))) fun r12 r13 =>
                  condW (Option.isSome r13)
                    (Q false)
                    (rng ((x.Fail.length : Int) - 1) ∧
                    (((0 : Int) ≤ ((x.Fail.length : Int) - 1) ∧ ((x.Fail.length : Int) - 1) ≤ 64) ∧ rng (1 * 2 ^ (Int.toNat ((x.Fail.length : Int) - 1)))) ∧
                    condW ((r12.length : Int) != (1 * 2 ^ (Int.toNat ((x.Fail.length : Int) - 1))))
                      (Q false)
                      (loopW (σ := Int × Bool × (List Int) × (List Int) × Bool × (List Int) × (List Int)) (0, false, [], [], false, [], []) fun ⟨x2, x3, x4, x5, x6, x7, x8⟩ next1 =>
                        condW (decide (x2 < (r12.length : Int)))
                          (((0 : Int) ≤ x2 ∧ x2 < (r12.length : Int)) ∧
                          loopW (σ := Int × Bool × (List Int) × (List Int) × Bool × (List Int) × (List Int)) (0, x3, x4, x5, x6, x7, x8) fun ⟨x9, x10, x11, x12, x13, x14, x15⟩ next2 =>
                            condW (decide (x9 < 2))
                              (rng ((x.Fail.length : Int) - 1) ∧
                              (((0 : Int) ≤ ((x.Fail.length : Int) - 1) ∧ ((x.Fail.length : Int) - 1) ≤ 64) ∧ rng (x9 * 2 ^ (Int.toNat ((x.Fail.length : Int) - 1)))) ∧
                              detW2 (formula_Value_W f (bits .or .i64 x2 (x9 * 2 ^ (Int.toNat ((x.Fail.length : Int) - 1))))) fun r14 r15 =>
                              condW (Option.isSome r15)
                                (Q false)
                                (condW r14
                                  (condW (x9 == 0)
                                    (detW (rational_Add_W (⟨x10, x11, x12⟩ : GRat) (at' r12 x2)) fun r16 =>
                                    rng (x9 + 1) ∧
                                    next2 ((x9 + 1), r16.Neg, r16.Num, r16.Den, x13, x14, x15))
                                    (condW (x9 == 1)
                                      (detW (rational_Add_W (⟨x13, x14, x15⟩ : GRat) (at' r12 x2)) fun r17 =>
                                      rng (x9 + 1) ∧
                                      next2 ((x9 + 1), x10, x11, x12, r17.Neg, r17.Num, r17.Den))
                                      (False)))
                                  (rng (x9 + 1) ∧
                                  next2 ((x9 + 1), x10, x11, x12, x13, x14, x15))))
                              (rng (x2 + 1) ∧
                              next1 ((x2 + 1), x10, x11, x12, x13, x14, x15)))
                          (detW (rational_Mul_W r10 (⟨x6, x7, x8⟩ : GRat)) fun r18 =>
                          detW (rational_Of_W 1) fun r19 =>
                          detW (rational_Sub_W r19 r10) fun r20 =>
                          detW (rational_Mul_W r20 (⟨x3, x4, x5⟩ : GRat)) fun r21 =>
                          detW (rational_Add_W r18 r21) fun r22 =>
                          rational_Cmp_W r22 r3 fun r23 =>
                          Q (r23 == 0)))))))))))
end Go.Gg
