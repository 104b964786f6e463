/- Formulas of functions. Conditions: none. -/
import Derived.Test.YtonbnfgknijpoaaGgU
import Derived.Test.YtonbnfgknijpoaaWF
namespace Go.Gg
def ref33_Coherent_W (f : GFormula) (Q : Bool → Prop) : Prop :=
  ref08_Below_W f fun below =>
  loopW (σ := Int) 0 fun i next1 =>
    condW (decide (i < (f.Nodes.length : Int)))
      (rng (f.Vars + i) ∧
      ((0 : Int) ≤ (f.Vars + i) ∧ (f.Vars + i) < (below.length : Int)) ∧
      condW (at' below (f.Vars + i))
        (((0 : Int) ≤ i ∧ i < (f.Nodes.length : Int)) ∧
        condW ((at' f.Nodes i).Kind == 1)
          (Q false)
          (((0 : Int) ≤ i ∧ i < (f.Nodes.length : Int)) ∧
          condW ((at' f.Nodes i).Kind == 5)
            (Q false)
            (rng (i + 1) ∧
            next1 (i + 1))))
        (rng (i + 1) ∧
        next1 (i + 1)))
      (Q true)
end Go.Gg
