/- Formulas of functions. Conditions: none. -/
import Derived.Test.YtonbnfgknijpoaaGgU
import Derived.Test.YtonbnfgknijpoaaWB
import Derived.Test.YtonbnfgknijpoaaWH50
import Derived.Test.YtonbnfgknijpoaaWPproduct
namespace Go.Gg
def law50_ProductBalanced_W (x : GRates) (Q : Bool → Prop) : Prop :=
  joinW (α := Bool) (fun next4 =>
    law50_awake_W fun r13 =>
    condW (!r13)
      (next4 true)
      (law50_short_W x.Fail 5 fun r14 =>
      condW (!r14)
        (next4 true)
        (law50_short_W x.Repair 5 fun r15 =>
        next4 (!r15))))
    fun x1 =>
    condW x1
      (law50_awake_W fun r =>
      Q r)
      (product_Stationary_W x.Fail x.Repair fun r1 r2 =>
      condW (Option.isSome r2)
        (Q ((r1.length : Int) == 0))
        (product_Chain_W x.Fail x.Repair (⟨(x.Fail.length : Int), [], 0⟩ : GFormula) fun r3 r4 =>
        condW (Option.isSome r4)
          (Q false)
          (condW ((r1.length : Int) != r3.States)
            (Q false)
            (mkOk 56 (r1.length : Int) (r1.length : Int) ∧
            loopW (σ := Int × GRat) (0, (⟨false, [], []⟩ : GRat)) fun ⟨x2, x3⟩ next1 =>
              condW (decide (x2 < (r1.length : Int)))
                (((0 : Int) ≤ x2 ∧ x2 < (r1.length : Int)) ∧
                rational_Sign_W (at' r1 x2) fun r5 =>
                condW (decide (r5 < 0))
                  (Q false)
                  (rational_Add_W x3 (at' r1 x2) fun r6 =>
                  rng (x2 + 1) ∧
                  next1 ((x2 + 1), r6)))
                (loopW (σ := Int × (List GRat)) (0, (rep' (r1.length : Int) (⟨false, [], []⟩ : GRat))) fun ⟨x4, net⟩ next2 =>
                  condW (decide (x4 < (r3.Moves.length : Int)))
                    (((0 : Int) ≤ x4 ∧ x4 < (r3.Moves.length : Int)) ∧
                    condW (decide ((at' r3.Moves x4).From < 0))
                      (Q false)
                      (condW (decide ((r1.length : Int) ≤ (at' r3.Moves x4).From))
                        (Q false)
                        (condW (decide ((at' r3.Moves x4).To < 0))
                          (Q false)
                          (condW (decide ((r1.length : Int) ≤ (at' r3.Moves x4).To))
                            (Q false)
                            (((0 : Int) ≤ (at' r3.Moves x4).From ∧ (at' r3.Moves x4).From < (r1.length : Int)) ∧
                            detW (rational_Mul_W (at' r1 ((at' r3.Moves x4).From)) ((at' r3.Moves x4).Rate)) fun r7 =>
                            ((0 : Int) ≤ (at' r3.Moves x4).From ∧ (at' r3.Moves x4).From < (net.length : Int)) ∧
                            detW (rational_Sub_W (at' net ((at' r3.Moves x4).From)) r7) fun r8 =>
                            ((0 : Int) ≤ (at' r3.Moves x4).To ∧ (at' r3.Moves x4).To < (net.length : Int)) ∧
                            detW (rational_Add_W (at' net ((at' r3.Moves x4).To)) r7) fun r9 =>
                            ((0 : Int) ≤ (at' r3.Moves x4).From ∧ (at' r3.Moves x4).From < (net.length : Int)) ∧
                            ((0 : Int) ≤ (at' r3.Moves x4).To ∧ (at' r3.Moves x4).To < (net.length : Int)) ∧
                            rng (x4 + 1) ∧
                            next2 ((x4 + 1), (set' (set' net ((at' r3.Moves x4).From) r8) ((at' r3.Moves x4).To) r9)))))))
                    (loopW (σ := Int) 0 fun x5 next3 =>
                      condW (decide (x5 < (net.length : Int)))
                        (((0 : Int) ≤ x5 ∧ x5 < (net.length : Int)) ∧
                        rational_Sign_W (at' net x5) fun r10 =>
                        condW (r10 != 0)
                          (Q false)
                          (rng (x5 + 1) ∧
                          next3 (x5 + 1)))
                        (detW (rational_Of_W 1) fun r11 =>
                        detW (rational_Cmp_W x3 r11) fun r12 =>
                        Q (r12 == 0))))))))
end Go.Gg
