/- Formulas of functions. Conditions: none. -/
import Derived.Test.YtonbnfgknijpoaaGgU
namespace Go.Gg
def law49_Brief_W (x : GRat) (others : Int) (Q : Bool → Prop) : Prop :=
  condW (decide (others ≤ 64))
    (condW (decide ((x.Num.length : Int) ≤ 2))
      (Q (decide ((x.Den.length : Int) ≤ 2)))
      (Q false))
    (condW (decide ((x.Num.length : Int) ≤ 1))
      (condW ((x.Den.length : Int) == 0)
        (Q true)
        (condW ((x.Den.length : Int) == 1)
          (((0 : Int) ≤ 0 ∧ 0 < (x.Den.length : Int)) ∧
          Q (decide ((at' x.Den 0) < 1024)))
          (Q false)))
      (Q false))
def law22_Short_W (a : GRat) (Q : Bool → Prop) : Prop :=
  condW (decide ((a.Num.length : Int) ≤ 40))
    (Q (decide ((a.Den.length : Int) ≤ 40)))
    (Q false)
def law08_Light_W (f : GFormula) (Q : Bool → Prop) : Prop :=
  condW (decide (200 < (f.Nodes.length : Int)))
    (Q false)
    (loopW (σ := Int) 0 fun x next1 =>
      condW (decide (x < (f.Nodes.length : Int)))
        (((0 : Int) ≤ x ∧ x < (f.Nodes.length : Int)) ∧
        condW (decide (40 < (((at' f.Nodes x).Args).length : Int)))
          (Q false)
          (rng (x + 1) ∧
          next1 (x + 1)))
        (Q true))
def slices_Clone___int_int_W (s : List Int) (Q : List Int → Prop) : Prop :=
  ∀ isnil : Bool, (isnil = true → s = []) →
  condW isnil
    (Q [])
    ((([] ++ s).length * 8 ≤ 140737488355328) ∧
    Q ([] ++ s))
def slices_Index___int_int_W (s : List Int) (v : Int) (Q : Int → Prop) : Prop :=
  loopW (σ := Int) 0 fun x next1 =>
    condW (decide (x < (s.length : Int)))
      (((0 : Int) ≤ x ∧ x < (s.length : Int)) ∧
      condW (v == (at' s x))
        (Q x)
        (rng (x + 1) ∧
        next1 (x + 1)))
      (Q (-1))
def slices_Contains___int_int_W (s : List Int) (v : Int) (Q : Bool → Prop) : Prop :=
  slices_Index___int_int_W s v fun r =>
  Q (decide (0 ≤ r))
def slices_Clone___uint32_uint32_W (s : List Int) (Q : List Int → Prop) : Prop :=
  ∀ isnil : Bool, (isnil = true → s = []) →
  condW isnil
    (Q [])
    ((([] ++ s).length * 4 ≤ 140737488355328) ∧
    Q ([] ++ s))
end Go.Gg
