/- Formulas of functions. Conditions: none. -/
import Derived.Test.YtonbnfgknijpoaaGgU
import Derived.Test.YtonbnfgknijpoaaWB
namespace Go.Gg
def chain_state_W (c : GChain) (s : Int) (Q : Bool → Prop) : Prop :=
  condW (decide (0 ≤ s))
    (Q (decide (s < c.States)))
    (Q false)
def chain_before_W (a : GMove) (b : GMove) (Q : Bool → Prop) : Prop :=
  condW (decide (a.From < b.From))
    (Q true)
    (condW (a.From == b.From)
      (Q (decide (a.To < b.To)))
      (Q false))
def chain_Check_W (c : GChain) (Q : Option Int → Prop) : Prop :=
  joinW (α := Bool) (fun next5 =>
    condW (decide (c.States < 1))
      (next5 true)
      (next5 (decide (256 < c.States))))
    fun x =>
    condW x
      (Q (some 3))
      (condW ((c.Down.length : Int) != c.States)
        (Q (some 11))
        (chain_state_W c c.Start fun r =>
        condW (!r)
          (Q (some 10))
          (loopW (σ := Int) 0 fun x1 next1 =>
            condW (decide (x1 < (c.Moves.length : Int)))
              (((0 : Int) ≤ x1 ∧ x1 < (c.Moves.length : Int)) ∧
              joinW (α := Bool) (fun next4 =>
                chain_state_W c ((at' c.Moves x1).From) fun r4 =>
                condW (!r4)
                  (next4 true)
                  (chain_state_W c ((at' c.Moves x1).To) fun r5 =>
                  next4 (!r5)))
                fun x2 =>
                condW x2
                  (Q (some 10))
                  (condW ((at' c.Moves x1).From == (at' c.Moves x1).To)
                    (Q (some 2))
                    (joinW (α := Bool) (fun next3 =>
                      rational_Valid_W ((at' c.Moves x1).Rate) fun r2 =>
                      condW (!r2)
                        (next3 true)
                        (rational_Sign_W ((at' c.Moves x1).Rate) fun r3 =>
                        next3 (decide (r3 ≤ 0))))
                      fun x3 =>
                      condW x3
                        (Q (some 3))
                        (joinW (α := Bool) (fun next2 =>
                          condW (decide (0 < x1))
                            (rng (x1 - 1) ∧
                            ((0 : Int) ≤ (x1 - 1) ∧ (x1 - 1) < (c.Moves.length : Int)) ∧
                            detW (chain_before_W (at' c.Moves (x1 - 1)) (at' c.Moves x1)) fun r1 =>
                            next2 (!r1))
                            (next2 false))
                          fun x4 =>
                          condW x4
                            (Q (some 13))
                            (rng (x1 + 1) ∧
                            next1 (x1 + 1))))))
              (Q none))))
end Go.Gg
