/- Formulas of functions. Conditions: none. -/
import Derived.Test.YtonbnfgknijpoaaGgU
namespace Go.Gg
def formula_arguments_W (kind : Int) (n : Int) (Q : Bool → Prop) : Prop :=
  condW (kind == 0)
    (Q (n == 0))
    (condW (kind == 1)
      (Q (n == 1))
      (condW (decide (1 ≤ n))
        (Q (decide (n ≤ 16)))
        (Q false)))
def formula_checkNode_W (f : GFormula) (i : Int) (Q : Option Int → Prop) : Prop :=
  ((0 : Int) ≤ i ∧ i < (f.Nodes.length : Int)) ∧
  joinW (α := Bool) (fun next5 =>
    condW (decide ((at' f.Nodes i).Kind < 0))
      (next5 true)
      (next5 (decide (5 < (at' f.Nodes i).Kind))))
    fun x =>
    condW x
      (Q (some 7))
      (formula_arguments_W ((at' f.Nodes i).Kind) (((at' f.Nodes i).Args).length : Int) fun r =>
      condW (!r)
        (Q (some 11))
        (loopW (σ := Int) 0 fun x1 next1 =>
          condW (decide (x1 < (((at' f.Nodes i).Args).length : Int)))
            (((0 : Int) ≤ x1 ∧ x1 < (((at' f.Nodes i).Args).length : Int)) ∧
            joinW (α := Bool) (fun next2 =>
              condW (decide ((at' ((at' f.Nodes i).Args) x1) < 0))
                (next2 true)
                (rng (f.Vars + i) ∧
                next2 (decide ((f.Vars + i) ≤ (at' ((at' f.Nodes i).Args) x1)))))
              fun x2 =>
              condW x2
                (Q (some 10))
                (rng (x1 + 1) ∧
                next1 (x1 + 1)))
            (condW ((at' f.Nodes i).Kind == 0)
              (joinW (α := Bool) (fun next3 =>
                condW ((at' f.Nodes i).K != 0)
                  (next3 ((at' f.Nodes i).K != 1))
                  (next3 false))
                fun x3 =>
                condW x3
                  (Q (some 3))
                  (Q none))
              (condW ((at' f.Nodes i).Kind == 4)
                (joinW (α := Bool) (fun next4 =>
                  condW (decide ((at' f.Nodes i).K < 1))
                    (next4 true)
                    (next4 (decide ((((at' f.Nodes i).Args).length : Int) < (at' f.Nodes i).K))))
                  fun x4 =>
                  condW x4
                    (Q (some 3))
                    (Q none))
                (condW ((at' f.Nodes i).K != 0)
                  (Q (some 2))
                  (Q none))))))
def formula_Valid_W (f : GFormula) (arg : Int) (Q : Bool → Prop) : Prop :=
  condW (decide (0 ≤ f.Vars))
    (condW (decide (0 ≤ arg))
      (condW (decide (arg < f.Vars))
        (Q true)
        (rng (arg - f.Vars) ∧
        Q (decide ((arg - f.Vars) < (f.Nodes.length : Int)))))
      (Q false))
    (Q false)
def formula_Check_W (f : GFormula) (Q : Option Int → Prop) : Prop :=
  joinW (α := Bool) (fun next2 =>
    condW (decide (f.Vars < 0))
      (next2 true)
      (next2 (decide (24 < f.Vars))))
    fun x =>
    condW x
      (Q (some 3))
      (condW (decide (128 < (f.Nodes.length : Int)))
        (Q (some 4))
        (loopW (σ := Int) 0 fun x1 next1 =>
          condW (decide (x1 < (f.Nodes.length : Int)))
            (formula_checkNode_W f x1 fun e =>
            condW (Option.isSome e)
              (Q e)
              (rng (x1 + 1) ∧
              next1 (x1 + 1)))
            (formula_Valid_W f f.Top fun r =>
            condW (!r)
              (Q (some 10))
              (Q none))))
def formula_check_W (f : GFormula) (failed : Int) (Q : Option Int → Prop) : Prop :=
  formula_Check_W f fun e =>
  condW (Option.isSome e)
    (Q e)
    (joinW (α := Bool) (fun next1 =>
      condW (decide (failed < 0))
        (next1 true)
        ((((0 : Int) ≤ f.Vars ∧ f.Vars ≤ 64) ∧ rng (1 * 2 ^ (Int.toNat f.Vars))) ∧
        next1 (decide ((1 * 2 ^ (Int.toNat f.Vars)) ≤ failed))))
      fun x =>
      condW x
        (Q (some 3))
        (Q none))
def formula_values_W (f : GFormula) (failed : Int) (Q : List Bool → Prop) : Prop :=
  rng (f.Vars + (f.Nodes.length : Int)) ∧
  mkOk 1 f.Vars (f.Vars + (f.Nodes.length : Int)) ∧
  loopW (σ := Int × (List Bool)) (0, (rep' f.Vars false)) fun ⟨x, v⟩ next1 =>
    condW (decide (x < ((Int.toNat f.Vars) : Int)))
      (((0 : Int) ≤ x ∧ x ≤ 64) ∧
      ((0 : Int) ≤ x ∧ x < (v.length : Int)) ∧
      rng (x + 1) ∧
      next1 ((x + 1), (set' v x ((bits .and .i64 (failed / 2 ^ (Int.toNat x)) 1) == 1))))
      (loopW (σ := Int × (List Bool)) (0, v) fun ⟨x1, v1⟩ next2 =>
        condW (decide (x1 < (f.Nodes.length : Int)))
          (((0 : Int) ≤ x1 ∧ x1 < (f.Nodes.length : Int)) ∧
          loopW (σ := Int × Int) (0, 0) fun ⟨n, x2⟩ next3 =>
            condW (decide (x2 < (((at' f.Nodes x1).Args).length : Int)))
              (((0 : Int) ≤ x2 ∧ x2 < (((at' f.Nodes x1).Args).length : Int)) ∧
              ((0 : Int) ≤ (at' ((at' f.Nodes x1).Args) x2) ∧ (at' ((at' f.Nodes x1).Args) x2) < (v1.length : Int)) ∧
              condW (at' v1 (at' ((at' f.Nodes x1).Args) x2))
                (rng (n + 1) ∧
                rng (x2 + 1) ∧
                next3 ((n + 1), (x2 + 1)))
                (rng (x2 + 1) ∧
                next3 (n, (x2 + 1))))
              (joinW (α := Bool) (fun next4 =>
                condW ((at' f.Nodes x1).Kind == 0)
                  (next4 ((at' f.Nodes x1).K == 1))
                  (condW ((at' f.Nodes x1).Kind == 1)
                    (next4 (n == 0))
                    (condW ((at' f.Nodes x1).Kind == 2)
                      (next4 (n == (((at' f.Nodes x1).Args).length : Int)))
                      (condW ((at' f.Nodes x1).Kind == 3)
                        (next4 (decide (0 < n)))
                        (condW ((at' f.Nodes x1).Kind == 4)
                          (next4 (decide ((at' f.Nodes x1).K ≤ n)))
                          (condW ((at' f.Nodes x1).Kind == 5)
                            (next4 ((Int.tmod n 2) == 1))
                            (next4 false)))))))
                fun is =>
                ((v1 ++ [is]).length * 1 ≤ 140737488355328) ∧
                rng (x1 + 1) ∧
                next2 ((x1 + 1), (v1 ++ [is]))))
          (Q v1))
def formula_Value_W (f : GFormula) (failed : Int) (Q : Bool → Option Int → Prop) : Prop :=
  formula_check_W f failed fun e =>
  condW (Option.isSome e)
    (Q false e)
    (detW (formula_values_W f failed) fun r =>
    ((0 : Int) ≤ f.Top ∧ f.Top < (r.length : Int)) ∧
    Q (at' r f.Top) none)
def ref08_node_W (f : GFormula) (i : Int) (Q : Int → Prop) : Prop :=
  ((0 : Int) ≤ i ∧ i < (f.Nodes.length : Int)) ∧
  joinW (α := Int × Int) (fun next2 =>
    condW ((at' f.Nodes i).Kind == 0)
      (next2 (0, 0))
      (condW ((at' f.Nodes i).Kind == 1)
        (next2 (1, 1))
        (condW ((at' f.Nodes i).Kind == 2)
          (next2 (1, 16))
          (condW ((at' f.Nodes i).Kind == 3)
            (next2 (1, 16))
            (condW ((at' f.Nodes i).Kind == 4)
              (next2 (1, 16))
              (condW ((at' f.Nodes i).Kind == 5)
                (next2 (1, 16))
                (Q 7)))))))
    fun ⟨least, most⟩ =>
    condW (decide ((((at' f.Nodes i).Args).length : Int) < least))
      (Q 11)
      (condW (decide (most < (((at' f.Nodes i).Args).length : Int)))
        (Q 11)
        (loopW (σ := Int) 0 fun x next1 =>
          condW (decide (x < (((at' f.Nodes i).Args).length : Int)))
            (((0 : Int) ≤ x ∧ x < (((at' f.Nodes i).Args).length : Int)) ∧
            condW (decide ((at' ((at' f.Nodes i).Args) x) < 0))
              (Q 10)
              (rng (f.Vars + i) ∧
              condW (decide ((f.Vars + i) ≤ (at' ((at' f.Nodes i).Args) x)))
                (Q 10)
                (rng (x + 1) ∧
                next1 (x + 1))))
            (condW ((at' f.Nodes i).Kind == 0)
              (condW ((at' f.Nodes i).K != 0)
                (condW ((at' f.Nodes i).K != 1)
                  (Q 3)
                  (Q 0))
                (Q 0))
              (condW ((at' f.Nodes i).Kind == 4)
                (condW (decide ((at' f.Nodes i).K < 1))
                  (Q 3)
                  (condW (decide ((((at' f.Nodes i).Args).length : Int) < (at' f.Nodes i).K))
                    (Q 3)
                    (Q 0)))
                (condW ((at' f.Nodes i).K != 0)
                  (Q 2)
                  (Q 0))))))
def ref08_Valid_W (f : GFormula) (arg : Int) (Q : Bool → Prop) : Prop :=
  condW (decide (0 ≤ f.Vars))
    (condW (decide (0 ≤ arg))
      (condW (decide (arg < f.Vars))
        (Q true)
        (rng (arg - f.Vars) ∧
        Q (decide ((arg - f.Vars) < (f.Nodes.length : Int)))))
      (Q false))
    (Q false)
def ref08_Check_W (f : GFormula) (Q : Int → Prop) : Prop :=
  condW (decide (f.Vars < 0))
    (Q 3)
    (condW (decide (24 < f.Vars))
      (Q 3)
      (condW (decide (128 < (f.Nodes.length : Int)))
        (Q 4)
        (loopW (σ := Int) 0 fun x next1 =>
          condW (decide (x < (f.Nodes.length : Int)))
            (ref08_node_W f x fun e =>
            condW (e != 0)
              (Q e)
              (rng (x + 1) ∧
              next1 (x + 1)))
            (ref08_Valid_W f f.Top fun r =>
            condW (!r)
              (Q 10)
              (Q 0)))))
def ref08_Of_W (f : GFormula) (values : List Bool) (failed : Int) (arg : Int) (Q : Bool → Prop) : Prop :=
  condW (decide (arg < f.Vars))
    (((0 : Int) ≤ arg ∧ arg ≤ 64) ∧
    Q ((bits .and .i64 (failed / 2 ^ (Int.toNat arg)) 1) == 1))
    (rng (arg - f.Vars) ∧
    ((0 : Int) ≤ (arg - f.Vars) ∧ (arg - f.Vars) < (values.length : Int)) ∧
    Q (at' values (arg - f.Vars)))
def ref08_Of__r1_W (f : GFormula) (values : List Bool) (valueso : Nat) (valuesl : Nat) (failed : Int) (arg : Int) (Q : List Bool → Bool → Prop) : Prop :=
  condW (decide (arg < f.Vars))
    (((0 : Int) ≤ arg ∧ arg ≤ 64) ∧
    Q values ((bits .and .i64 (failed / 2 ^ (Int.toNat arg)) 1) == 1))
    (rng (arg - f.Vars) ∧
    ((0 : Int) ≤ (arg - f.Vars) ∧ (arg - f.Vars) < (valuesl : Int)) ∧
    (Int.toNat ((valueso : Int) + (arg - f.Vars))) < values.length ∧
    Q values (at' values ((valueso : Int) + (arg - f.Vars))))
def ref08_Values_W (f : GFormula) (failed : Int) (Q : List Bool → Prop) : Prop :=
  mkOk 1 (f.Nodes.length : Int) (f.Nodes.length : Int) ∧
  loopW (σ := Int × (List Bool)) (0, (rep' (f.Nodes.length : Int) false)) fun ⟨x, values⟩ next1 =>
    condW (decide (x < (f.Nodes.length : Int)))
      (((0 : Int) ≤ x ∧ x < (f.Nodes.length : Int)) ∧
      loopW (σ := Int × Int × (List Bool)) (0, 0, values) fun ⟨n, x1, values1⟩ next2 =>
        condW (decide (x1 < (((at' f.Nodes x).Args).length : Int)))
          (((0 : Int) ≤ x1 ∧ x1 < (((at' f.Nodes x).Args).length : Int)) ∧
          ref08_Of__r1_W f values1 0 values1.length failed (at' ((at' f.Nodes x).Args) x1) fun values2 r =>
          values2.length = values1.length ∧
          condW r
            (rng (n + 1) ∧
            rng (x1 + 1) ∧
            next2 ((n + 1), (x1 + 1), values2))
            (rng (x1 + 1) ∧
            next2 (n, (x1 + 1), values2)))
          (condW ((at' f.Nodes x).Kind == 0)
            (((0 : Int) ≤ x ∧ x < (values1.length : Int)) ∧
            rng (x + 1) ∧
            next1 ((x + 1), (set' values1 x ((at' f.Nodes x).K == 1))))
            (condW ((at' f.Nodes x).Kind == 1)
              (((0 : Int) ≤ x ∧ x < (values1.length : Int)) ∧
              rng (x + 1) ∧
              next1 ((x + 1), (set' values1 x (n == 0))))
              (condW ((at' f.Nodes x).Kind == 2)
                (((0 : Int) ≤ x ∧ x < (values1.length : Int)) ∧
                rng (x + 1) ∧
                next1 ((x + 1), (set' values1 x (n == (((at' f.Nodes x).Args).length : Int)))))
                (condW ((at' f.Nodes x).Kind == 3)
                  (((0 : Int) ≤ x ∧ x < (values1.length : Int)) ∧
                  rng (x + 1) ∧
                  next1 ((x + 1), (set' values1 x (decide (0 < n)))))
                  (condW ((at' f.Nodes x).Kind == 4)
                    (((0 : Int) ≤ x ∧ x < (values1.length : Int)) ∧
                    rng (x + 1) ∧
                    next1 ((x + 1), (set' values1 x (decide ((at' f.Nodes x).K ≤ n)))))
                    (((0 : Int) ≤ x ∧ x < (values1.length : Int)) ∧
                    rng (x + 1) ∧
                    next1 ((x + 1), (set' values1 x ((Int.tmod n 2) == 1))))))))))
      (Q values)
def ref08_Value_W (f : GFormula) (failed : Int) (Q : Bool → Prop) : Prop :=
  detW (ref08_Values_W f failed) fun r =>
  detW (ref08_Of_W f r failed f.Top) fun r1 =>
  Q r1
def ref08_Below_W (f : GFormula) (Q : List Bool → Prop) : Prop :=
  rng (f.Vars + (f.Nodes.length : Int)) ∧
  mkOk 1 (f.Vars + (f.Nodes.length : Int)) (f.Vars + (f.Nodes.length : Int)) ∧
  ((0 : Int) ≤ f.Top ∧ f.Top < ((Int.toNat (f.Vars + (f.Nodes.length : Int))) : Int)) ∧
  rng ((f.Nodes.length : Int) - 1) ∧
  loopW (σ := Int × (List Bool)) (((f.Nodes.length : Int) - 1), (set' (rep' (f.Vars + (f.Nodes.length : Int)) false) f.Top true)) fun ⟨i, mark⟩ next1 =>
    condW (decide (0 ≤ i))
      (rng (f.Vars + i) ∧
      ((0 : Int) ≤ (f.Vars + i) ∧ (f.Vars + i) < (mark.length : Int)) ∧
      condW (!(at' mark (f.Vars + i)))
        (rng (i - 1) ∧
        next1 ((i - 1), mark))
        (((0 : Int) ≤ i ∧ i < (f.Nodes.length : Int)) ∧
        loopW (σ := Int × (List Bool)) (0, mark) fun ⟨x, mark1⟩ next2 =>
          condW (decide (x < (((at' f.Nodes i).Args).length : Int)))
            (((0 : Int) ≤ x ∧ x < (((at' f.Nodes i).Args).length : Int)) ∧
            ((0 : Int) ≤ (at' ((at' f.Nodes i).Args) x) ∧ (at' ((at' f.Nodes i).Args) x) < (mark1.length : Int)) ∧
            rng (x + 1) ∧
            next2 ((x + 1), (set' mark1 (at' ((at' f.Nodes i).Args) x) true)))
            (rng (i - 1) ∧
            next1 ((i - 1), mark1))))
      (Q mark)
end Go.Gg
