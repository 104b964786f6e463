/- The structures of the program and how they are encoded. Conditions: none. -/
import Derived.Test.YtiamkdpljeemkaaGc
import Derived.Test.YtiamkdpljeemkaaGd
/- The structures of the program and how they are encoded. Conditions: none. -/
namespace Go.Gg
structure GNode where
  Kind : Int
  K : Int
  Args : List Int
instance : Inhabited GNode := ⟨⟨0, 0, []⟩⟩
def eNode (r : GNode) : AV := .agg [.int .i64 r.Kind, .int .i64 r.K, eL (AV.int .i64) r.Args]
structure GFormula where
  Vars : Int
  Nodes : List GNode
  Top : Int
instance : Inhabited GFormula := ⟨⟨0, [], 0⟩⟩
def eFormula (r : GFormula) : AV := .agg [.int .i64 r.Vars, eL eNode r.Nodes, .int .i64 r.Top]
structure GDNode where
  Var : Int
  Lo : Int
  Hi : Int
instance : Inhabited GDNode := ⟨⟨0, 0, 0⟩⟩
def eDNode (r : GDNode) : AV := .agg [.int .i64 r.Var, .int .i64 r.Lo, .int .i64 r.Hi]
structure GDiagram where
  Order : List Int
  Nodes : List GDNode
  Root : Int
instance : Inhabited GDiagram := ⟨⟨[], [], 0⟩⟩
def eDiagram (r : GDiagram) : AV := .agg [eL (AV.int .i64) r.Order, eL eDNode r.Nodes, .int .i64 r.Root]
structure GCube where
  Yes : Int
  No : Int
instance : Inhabited GCube := ⟨⟨0, 0⟩⟩
structure GRat where
  Neg : Bool
  Num : List Int
  Den : List Int
instance : Inhabited GRat := ⟨⟨false, [], []⟩⟩
structure Gwalk where
  Formula : GFormula
  events : List Int
  seen : List Bool
instance : Inhabited Gwalk := ⟨⟨default, [], []⟩⟩
end Go.Gg
/- Formulas of functions. Conditions: none. -/
namespace Go.Gg
end Go.Gg
/- Formulas of functions. Conditions: none. -/
namespace Go.Gg
def base_Ints_W (a : List Int) (b : List Int) (Q : Bool → Prop) : Prop :=
  condW ((a.length : Int) != (b.length : Int))
    (Q false)
    (loopW (σ := Int) 0 fun x next1 =>
      condW (decide (x < (a.length : Int)))
        (((0 : Int) ≤ x ∧ x < (a.length : Int)) ∧
        ((0 : Int) ≤ x ∧ x < (b.length : Int)) ∧
        condW ((at' a x) != (at' b x))
          (Q false)
          (rng (x + 1) ∧
          next1 (x + 1)))
        (Q true))
def base_Diagram_W (a : GDiagram) (b : GDiagram) (Q : Bool → Prop) : Prop :=
  condW (a.Root != b.Root)
    (Q false)
    (base_Ints_W a.Order b.Order fun r =>
    condW (!r)
      (Q false)
      (condW ((a.Nodes.length : Int) != (b.Nodes.length : Int))
        (Q false)
        (loopW (σ := Int) 0 fun x next1 =>
          condW (decide (x < (a.Nodes.length : Int)))
            (((0 : Int) ≤ x ∧ x < (a.Nodes.length : Int)) ∧
            ((0 : Int) ≤ x ∧ x < (b.Nodes.length : Int)) ∧
            condW (!decide ([(at' a.Nodes x).Var, (at' a.Nodes x).Lo, (at' a.Nodes x).Hi] = [(at' b.Nodes x).Var, (at' b.Nodes x).Lo, (at' b.Nodes x).Hi]))
              (Q false)
              (rng (x + 1) ∧
              next1 (x + 1)))
            (Q true))))
end Go.Gg
/- Formulas of functions. Conditions: none. -/
namespace Go.Gg
def formula_arguments_W (kind : Int) (n : Int) (Q : Bool → Prop) : Prop :=
  condW (kind == 0)
    (Q (n == 0))
    (condW (kind == 1)
      (Q (n == 1))
      (condW (decide (1 ≤ n))
        (Q (decide (n ≤ 16)))
        (Q false)))
def formula_checkNode_W (f : GFormula) (i : Int) (Q : Option Int → Prop) : Prop :=
  ((0 : Int) ≤ i ∧ i < (f.Nodes.length : Int)) ∧
  joinW (α := Bool) (fun next5 =>
    condW (decide ((at' f.Nodes i).Kind < 0))
      (next5 true)
      (next5 (decide (5 < (at' f.Nodes i).Kind))))
    fun x =>
    condW x
      (Q (some 7))
      (formula_arguments_W ((at' f.Nodes i).Kind) (((at' f.Nodes i).Args).length : Int) fun r =>
      condW (!r)
        (Q (some 11))
        (loopW (σ := Int) 0 fun x1 next1 =>
          condW (decide (x1 < (((at' f.Nodes i).Args).length : Int)))
            (((0 : Int) ≤ x1 ∧ x1 < (((at' f.Nodes i).Args).length : Int)) ∧
            joinW (α := Bool) (fun next2 =>
              condW (decide ((at' ((at' f.Nodes i).Args) x1) < 0))
                (next2 true)
                (rng (f.Vars + i) ∧
                next2 (decide ((f.Vars + i) ≤ (at' ((at' f.Nodes i).Args) x1)))))
              fun x2 =>
              condW x2
                (Q (some 10))
                (rng (x1 + 1) ∧
                next1 (x1 + 1)))
            (condW ((at' f.Nodes i).Kind == 0)
              (joinW (α := Bool) (fun next3 =>
                condW ((at' f.Nodes i).K != 0)
                  (next3 ((at' f.Nodes i).K != 1))
                  (next3 false))
                fun x3 =>
                condW x3
                  (Q (some 3))
                  (Q none))
              (condW ((at' f.Nodes i).Kind == 4)
                (joinW (α := Bool) (fun next4 =>
                  condW (decide ((at' f.Nodes i).K < 1))
                    (next4 true)
                    (next4 (decide ((((at' f.Nodes i).Args).length : Int) < (at' f.Nodes i).K))))
                  fun x4 =>
                  condW x4
                    (Q (some 3))
                    (Q none))
                (condW ((at' f.Nodes i).K != 0)
                  (Q (some 2))
                  (Q none))))))
def formula_Valid_W (f : GFormula) (arg : Int) (Q : Bool → Prop) : Prop :=
  condW (decide (0 ≤ f.Vars))
    (condW (decide (0 ≤ arg))
      (condW (decide (arg < f.Vars))
        (Q true)
        (rng (arg - f.Vars) ∧
        Q (decide ((arg - f.Vars) < (f.Nodes.length : Int)))))
      (Q false))
    (Q false)
def formula_Check_W (f : GFormula) (Q : Option Int → Prop) : Prop :=
  joinW (α := Bool) (fun next2 =>
    condW (decide (f.Vars < 0))
      (next2 true)
      (next2 (decide (24 < f.Vars))))
    fun x =>
    condW x
      (Q (some 3))
      (condW (decide (128 < (f.Nodes.length : Int)))
        (Q (some 4))
        (loopW (σ := Int) 0 fun x1 next1 =>
          condW (decide (x1 < (f.Nodes.length : Int)))
            (formula_checkNode_W f x1 fun e =>
            condW (Option.isSome e)
              (Q e)
              (rng (x1 + 1) ∧
              next1 (x1 + 1)))
            (formula_Valid_W f f.Top fun r =>
            condW (!r)
              (Q (some 10))
              (Q none))))
def formula_below_W (f : GFormula) (Q : List Bool → Prop) : Prop :=
  rng (f.Vars + (f.Nodes.length : Int)) ∧
  mkOk 1 (f.Vars + (f.Nodes.length : Int)) (f.Vars + (f.Nodes.length : Int)) ∧
  ((0 : Int) ≤ f.Top ∧ f.Top < ((Int.toNat (f.Vars + (f.Nodes.length : Int))) : Int)) ∧
  rng ((f.Nodes.length : Int) - 1) ∧
  loopW (σ := Int × (List Bool)) (((f.Nodes.length : Int) - 1), (set' (rep' (f.Vars + (f.Nodes.length : Int)) false) f.Top true)) fun ⟨i, mark⟩ next1 =>
    condW (decide (0 ≤ i))
      (rng (f.Vars + i) ∧
      ((0 : Int) ≤ (f.Vars + i) ∧ (f.Vars + i) < (mark.length : Int)) ∧
      condW (at' mark (f.Vars + i))
        (((0 : Int) ≤ i ∧ i < (f.Nodes.length : Int)) ∧
        loopW (σ := Int × (List Bool)) (0, mark) fun ⟨x, mark1⟩ next2 =>
          condW (decide (x < (((at' f.Nodes i).Args).length : Int)))
            (((0 : Int) ≤ x ∧ x < (((at' f.Nodes i).Args).length : Int)) ∧
            ((0 : Int) ≤ (at' ((at' f.Nodes i).Args) x) ∧ (at' ((at' f.Nodes i).Args) x) < (mark1.length : Int)) ∧
            rng (x + 1) ∧
            next2 ((x + 1), (set' mark1 (at' ((at' f.Nodes i).Args) x) true)))
            (rng (i - 1) ∧
            next1 ((i - 1), mark1)))
        (rng (i - 1) ∧
        next1 ((i - 1), mark)))
      (Q mark)
def formula_Trim_W (f : GFormula) (Q : GFormula → Option Int → Prop) : Prop :=
  formula_Check_W f fun e =>
  condW (Option.isSome e)
    (Q (⟨0, [], 0⟩ : GFormula) e)
    (rng (f.Vars + (f.Nodes.length : Int)) ∧
    mkOk 8 (f.Vars + (f.Nodes.length : Int)) (f.Vars + (f.Nodes.length : Int)) ∧
    loopW (σ := Int × (List Int)) (0, (rep' (f.Vars + (f.Nodes.length : Int)) 0)) fun ⟨x, to⟩ next1 =>
      condW (decide (x < f.Vars))
        (((0 : Int) ≤ x ∧ x < (to.length : Int)) ∧
        rng (x + 1) ∧
        next1 ((x + 1), (set' to x x)))
        (detW (formula_below_W f) fun r =>
        ((0 : Int) ≤ f.Vars ∧ f.Vars ≤ (r.length : Int) ∧ (r.length : Int) ≤ (r.length : Int)) ∧
        loopW (σ := Int × (List Int) × (List GNode)) (0, to, []) fun ⟨x1, to1, x2⟩ next2 =>
          condW (decide (x1 < ((sub' r f.Vars (r.length : Int)).length : Int)))
            (((0 : Int) ≤ x1 ∧ x1 < ((sub' r f.Vars (r.length : Int)).length : Int)) ∧
            condW (!(at' (sub' r f.Vars (r.length : Int)) x1))
              (rng (x1 + 1) ∧
              next2 ((x1 + 1), to1, x2))
              (((0 : Int) ≤ x1 ∧ x1 < (f.Nodes.length : Int)) ∧
              loopW (σ := Int × (List Int)) (0, []) fun ⟨x3, x4⟩ next3 =>
                condW (decide (x3 < (((at' f.Nodes x1).Args).length : Int)))
                  (((0 : Int) ≤ x3 ∧ x3 < (((at' f.Nodes x1).Args).length : Int)) ∧
                  ((0 : Int) ≤ (at' ((at' f.Nodes x1).Args) x3) ∧ (at' ((at' f.Nodes x1).Args) x3) < (to1.length : Int)) ∧
                  ((x4 ++ [(at' to1 (at' ((at' f.Nodes x1).Args) x3))]).length * 8 ≤ 140737488355328) ∧
                  rng (x3 + 1) ∧
                  next3 ((x3 + 1), (x4 ++ [(at' to1 (at' ((at' f.Nodes x1).Args) x3))])))
                  (rng (f.Vars + x1) ∧
                  rng (f.Vars + (x2.length : Int)) ∧
                  ((0 : Int) ≤ (f.Vars + x1) ∧ (f.Vars + x1) < (to1.length : Int)) ∧
                  ((x2 ++ [(⟨(at' f.Nodes x1).Kind, (at' f.Nodes x1).K, x4⟩ : GNode)]).length * 40 ≤ 140737488355328) ∧
                  rng (x1 + 1) ∧
                  next2 ((x1 + 1), (set' to1 (f.Vars + x1) (f.Vars + (x2.length : Int))), (x2 ++ [(⟨(at' f.Nodes x1).Kind, (at' f.Nodes x1).K, x4⟩ : GNode)])))))
            (((0 : Int) ≤ f.Top ∧ f.Top < (to1.length : Int)) ∧
            Q (⟨f.Vars, x2, (at' to1 f.Top)⟩ : GFormula) none)))
def formula_Size_W (f : GFormula) (Q : Int → Int → Option Int → Prop) : Prop :=
  formula_Check_W f fun e =>
  condW (Option.isSome e)
    (Q 0 0 e)
    (detW (formula_below_W f) fun r =>
    ((0 : Int) ≤ f.Vars ∧ f.Vars ≤ (r.length : Int) ∧ (r.length : Int) ≤ (r.length : Int)) ∧
    loopW (σ := Int × Int × Int) (0, 0, 0) fun ⟨nodes, args, x⟩ next1 =>
      condW (decide (x < ((sub' r f.Vars (r.length : Int)).length : Int)))
        (((0 : Int) ≤ x ∧ x < ((sub' r f.Vars (r.length : Int)).length : Int)) ∧
        condW (at' (sub' r f.Vars (r.length : Int)) x)
          (rng (nodes + 1) ∧
          ((0 : Int) ≤ x ∧ x < (f.Nodes.length : Int)) ∧
          rng (args + (((at' f.Nodes x).Args).length : Int)) ∧
          setW (args + (((at' f.Nodes x).Args).length : Int)) fun args1 =>
          rng (x + 1) ∧
          next1 ((nodes + 1), args1, (x + 1)))
          (rng (x + 1) ∧
          next1 (nodes, args, (x + 1))))
        (Q nodes args none))
def ref08_node_W (f : GFormula) (i : Int) (Q : Int → Prop) : Prop :=
  ((0 : Int) ≤ i ∧ i < (f.Nodes.length : Int)) ∧
  joinW (α := Int × Int) (fun next2 =>
    condW ((at' f.Nodes i).Kind == 0)
      (next2 (0, 0))
      (condW ((at' f.Nodes i).Kind == 1)
        (next2 (1, 1))
        (condW ((at' f.Nodes i).Kind == 2)
          (next2 (1, 16))
          (condW ((at' f.Nodes i).Kind == 3)
            (next2 (1, 16))
            (condW ((at' f.Nodes i).Kind == 4)
              (next2 (1, 16))
              (condW ((at' f.Nodes i).Kind == 5)
                (next2 (1, 16))
                (Q 7)))))))
    fun ⟨least, most⟩ =>
    condW (decide ((((at' f.Nodes i).Args).length : Int) < least))
      (Q 11)
      (condW (decide (most < (((at' f.Nodes i).Args).length : Int)))
        (Q 11)
        (loopW (σ := Int) 0 fun x next1 =>
          condW (decide (x < (((at' f.Nodes i).Args).length : Int)))
            (((0 : Int) ≤ x ∧ x < (((at' f.Nodes i).Args).length : Int)) ∧
            condW (decide ((at' ((at' f.Nodes i).Args) x) < 0))
              (Q 10)
              (rng (f.Vars + i) ∧
              condW (decide ((f.Vars + i) ≤ (at' ((at' f.Nodes i).Args) x)))
                (Q 10)
                (rng (x + 1) ∧
                next1 (x + 1))))
            (condW ((at' f.Nodes i).Kind == 0)
              (condW ((at' f.Nodes i).K != 0)
                (condW ((at' f.Nodes i).K != 1)
                  (Q 3)
                  (Q 0))
                (Q 0))
              (condW ((at' f.Nodes i).Kind == 4)
                (condW (decide ((at' f.Nodes i).K < 1))
                  (Q 3)
                  (condW (decide ((((at' f.Nodes i).Args).length : Int) < (at' f.Nodes i).K))
                    (Q 3)
                    (Q 0)))
                (condW ((at' f.Nodes i).K != 0)
                  (Q 2)
                  (Q 0))))))
def ref08_Valid_W (f : GFormula) (arg : Int) (Q : Bool → Prop) : Prop :=
  condW (decide (0 ≤ f.Vars))
    (condW (decide (0 ≤ arg))
      (condW (decide (arg < f.Vars))
        (Q true)
        (rng (arg - f.Vars) ∧
        Q (decide ((arg - f.Vars) < (f.Nodes.length : Int)))))
      (Q false))
    (Q false)
def ref08_Check_W (f : GFormula) (Q : Int → Prop) : Prop :=
  condW (decide (f.Vars < 0))
    (Q 3)
    (condW (decide (24 < f.Vars))
      (Q 3)
      (condW (decide (128 < (f.Nodes.length : Int)))
        (Q 4)
        (loopW (σ := Int) 0 fun x next1 =>
          condW (decide (x < (f.Nodes.length : Int)))
            (ref08_node_W f x fun e =>
            condW (e != 0)
              (Q e)
              (rng (x + 1) ∧
              next1 (x + 1)))
            (ref08_Valid_W f f.Top fun r =>
            condW (!r)
              (Q 10)
              (Q 0)))))
def ref08_Of_W (f : GFormula) (values : List Bool) (failed : Int) (arg : Int) (Q : Bool → Prop) : Prop :=
  condW (decide (arg < f.Vars))
    (((0 : Int) ≤ arg ∧ arg ≤ 64) ∧
    Q ((bits .and .i64 (failed / 2 ^ (Int.toNat arg)) 1) == 1))
    (rng (arg - f.Vars) ∧
    ((0 : Int) ≤ (arg - f.Vars) ∧ (arg - f.Vars) < (values.length : Int)) ∧
    Q (at' values (arg - f.Vars)))
def ref08_Of__r1_W (f : GFormula) (values : List Bool) (valueso : Nat) (valuesl : Nat) (failed : Int) (arg : Int) (Q : List Bool → Bool → Prop) : Prop :=
  condW (decide (arg < f.Vars))
    (((0 : Int) ≤ arg ∧ arg ≤ 64) ∧
    Q values ((bits .and .i64 (failed / 2 ^ (Int.toNat arg)) 1) == 1))
    (rng (arg - f.Vars) ∧
    ((0 : Int) ≤ (arg - f.Vars) ∧ (arg - f.Vars) < (valuesl : Int)) ∧
    (Int.toNat ((valueso : Int) + (arg - f.Vars))) < values.length ∧
    Q values (at' values ((valueso : Int) + (arg - f.Vars))))
def ref08_Values_W (f : GFormula) (failed : Int) (Q : List Bool → Prop) : Prop :=
  mkOk 1 (f.Nodes.length : Int) (f.Nodes.length : Int) ∧
  loopW (σ := Int × (List Bool)) (0, (rep' (f.Nodes.length : Int) false)) fun ⟨x, values⟩ next1 =>
    condW (decide (x < (f.Nodes.length : Int)))
      (((0 : Int) ≤ x ∧ x < (f.Nodes.length : Int)) ∧
      loopW (σ := Int × Int × (List Bool)) (0, 0, values) fun ⟨n, x1, values1⟩ next2 =>
        condW (decide (x1 < (((at' f.Nodes x).Args).length : Int)))
          (((0 : Int) ≤ x1 ∧ x1 < (((at' f.Nodes x).Args).length : Int)) ∧
          ref08_Of__r1_W f values1 0 values1.length failed (at' ((at' f.Nodes x).Args) x1) fun values2 r =>
          values2.length = values1.length ∧
          condW r
            (rng (n + 1) ∧
            rng (x1 + 1) ∧
            next2 ((n + 1), (x1 + 1), values2))
            (rng (x1 + 1) ∧
            next2 (n, (x1 + 1), values2)))
          (condW ((at' f.Nodes x).Kind == 0)
            (((0 : Int) ≤ x ∧ x < (values1.length : Int)) ∧
            rng (x + 1) ∧
            next1 ((x + 1), (set' values1 x ((at' f.Nodes x).K == 1))))
            (condW ((at' f.Nodes x).Kind == 1)
              (((0 : Int) ≤ x ∧ x < (values1.length : Int)) ∧
              rng (x + 1) ∧
              next1 ((x + 1), (set' values1 x (n == 0))))
              (condW ((at' f.Nodes x).Kind == 2)
                (((0 : Int) ≤ x ∧ x < (values1.length : Int)) ∧
                rng (x + 1) ∧
                next1 ((x + 1), (set' values1 x (n == (((at' f.Nodes x).Args).length : Int)))))
                (condW ((at' f.Nodes x).Kind == 3)
                  (((0 : Int) ≤ x ∧ x < (values1.length : Int)) ∧
                  rng (x + 1) ∧
                  next1 ((x + 1), (set' values1 x (decide (0 < n)))))
                  (condW ((at' f.Nodes x).Kind == 4)
                    (((0 : Int) ≤ x ∧ x < (values1.length : Int)) ∧
                    rng (x + 1) ∧
                    next1 ((x + 1), (set' values1 x (decide ((at' f.Nodes x).K ≤ n)))))
                    (((0 : Int) ≤ x ∧ x < (values1.length : Int)) ∧
                    rng (x + 1) ∧
                    next1 ((x + 1), (set' values1 x ((Int.tmod n 2) == 1))))))))))
      (Q values)
def ref08_Value_W (f : GFormula) (failed : Int) (Q : Bool → Prop) : Prop :=
  detW (ref08_Values_W f failed) fun r =>
  detW (ref08_Of_W f r failed f.Top) fun r1 =>
  Q r1
end Go.Gg
/- Formulas of functions. Conditions: none. -/
namespace Go.Gg
def order_Check_W (o : List Int) (vars : Int) (Q : Option Int → Prop) : Prop :=
  joinW (α := Bool) (fun next3 =>
    condW (decide (vars < 0))
      (next3 true)
      (next3 (decide (24 < vars))))
    fun x =>
    condW x
      (Q (some 3))
      (condW ((o.length : Int) != vars)
        (Q (some 11))
        (mkOk 1 vars vars ∧
        loopW (σ := Int × (List Bool)) (0, (rep' vars false)) fun ⟨x1, seen⟩ next1 =>
          condW (decide (x1 < (o.length : Int)))
            (((0 : Int) ≤ x1 ∧ x1 < (o.length : Int)) ∧
            joinW (α := Bool) (fun next2 =>
              condW (decide ((at' o x1) < 0))
                (next2 true)
                (next2 (decide (vars ≤ (at' o x1)))))
              fun x2 =>
              condW x2
                (Q (some 3))
                (((0 : Int) ≤ (at' o x1) ∧ (at' o x1) < (seen.length : Int)) ∧
                condW (at' seen (at' o x1))
                  (Q (some 6))
                  (((0 : Int) ≤ (at' o x1) ∧ (at' o x1) < (seen.length : Int)) ∧
                  rng (x1 + 1) ∧
                  next1 ((x1 + 1), (set' seen (at' o x1) true)))))
            (Q none)))
def order_places_W (o : List Int) (Q : List Int → Prop) : Prop :=
  mkOk 8 (o.length : Int) (o.length : Int) ∧
  loopW (σ := Int × (List Int)) (0, (rep' (o.length : Int) 0)) fun ⟨x, out⟩ next1 =>
    condW (decide (x < (o.length : Int)))
      (((0 : Int) ≤ x ∧ x < (o.length : Int)) ∧
      ((0 : Int) ≤ (at' o x) ∧ (at' o x) < (out.length : Int)) ∧
      rng (x + 1) ∧
      next1 ((x + 1), (set' out (at' o x) x)))
      (Q out)
def order_Positions_W (o : List Int) (Q : List Int → Option Int → Prop) : Prop :=
  order_Check_W o (o.length : Int) fun err =>
  condW (Option.isSome err)
    (Q [] err)
    (order_places_W o fun r =>
    Q r none)
def order_natural_W (n : Int) (Q : List Int → Prop) : Prop :=
  mkOk 8 n n ∧
  loopW (σ := Int × (List Int)) (0, (rep' n 0)) fun ⟨x, out⟩ next1 =>
    condW (decide (x < ((Int.toNat n) : Int)))
      (((0 : Int) ≤ x ∧ x < (out.length : Int)) ∧
      rng (x + 1) ∧
      next1 ((x + 1), (set' out x x)))
      (Q out)
def order_Natural_W (vars : Int) (Q : List Int → Option Int → Prop) : Prop :=
  joinW (α := Bool) (fun next1 =>
    condW (decide (vars < 0))
      (next1 true)
      (next1 (decide (24 < vars))))
    fun x =>
    condW x
      (Q [] (some 3))
      (order_natural_W vars fun r =>
      Q r none)
end Go.Gg
/- Formulas of functions. Conditions: none. -/
namespace Go.Gg
def ref14_Check_W (o : List Int) (vars : Int) (Q : Int → Prop) : Prop :=
  condW (decide (vars < 0))
    (Q 3)
    (condW (decide (24 < vars))
      (Q 3)
      (condW ((o.length : Int) != vars)
        (Q 11)
        (loopW (σ := Int) 0 fun i next1 =>
          condW (decide (i < vars))
            (((0 : Int) ≤ i ∧ i < (o.length : Int)) ∧
            condW (decide ((at' o i) < 0))
              (Q 3)
              (((0 : Int) ≤ i ∧ i < (o.length : Int)) ∧
              condW (decide (vars ≤ (at' o i)))
                (Q 3)
                (loopW (σ := Int) 0 fun k1 next2 =>
                  condW (decide (k1 < i))
                    (((0 : Int) ≤ k1 ∧ k1 < (o.length : Int)) ∧
                    ((0 : Int) ≤ i ∧ i < (o.length : Int)) ∧
                    condW ((at' o k1) == (at' o i))
                      (Q 6)
                      (rng (k1 + 1) ∧
                      next2 (k1 + 1)))
                    (rng (i + 1) ∧
                    next1 (i + 1)))))
            (Q 0))))
def ref14_Place_W (l : List Int) (n : Int) (Q : Int → Prop) : Prop :=
  loopW (σ := Int) 0 fun i next1 =>
    condW (decide (i < (l.length : Int)))
      (((0 : Int) ≤ i ∧ i < (l.length : Int)) ∧
      condW ((at' l i) == n)
        (Q i)
        (rng (i + 1) ∧
        next1 (i + 1)))
      (Q (-1))
end Go.Gg
/- Formulas of functions. Conditions: none. -/
namespace Go.Gg
def decision_New_W (order : List Int) (Q : List Int → List Int → GMap Int → GMap Int → Prop) : Prop :=
  (order.length * 8 ≤ 140737488355328) ∧
  mkOk 8 (order.length : Int) (order.length : Int) ∧
  loopW (σ := Int × (List Int)) (0, (rep' (order.length : Int) 0)) fun ⟨x, x1⟩ next1 =>
    condW (decide (x < (order.length : Int)))
      (((0 : Int) ≤ x ∧ x < (order.length : Int)) ∧
      ((0 : Int) ≤ (at' order x) ∧ (at' order x) < (x1.length : Int)) ∧
      rng (x + 1) ∧
      next1 ((x + 1), (set' x1 (at' order x) x)))
      (Q order x1 (mnew : GMap Int) (mnew : GMap Int))
def decision_Table__Make__e2_W (v : Int) (lo : Int) (hi : Int) (_order : List Int) (_place : List Int) (nodes : List GDNode) (unique : GMap Int) (_memo : GMap Int) (Q : List GDNode → GMap Int → Int → Prop) : Prop :=
  condW (lo == hi)
    (Q nodes unique lo)
    (condW (!(Option.isSome (mget unique [v, lo, hi])))
      (rng (2 + (nodes.length : Int)) ∧
      ((nodes ++ [(⟨v, lo, hi⟩ : GDNode)]).length * 24 ≤ 140737488355328) ∧
      Q (nodes ++ [(⟨v, lo, hi⟩ : GDNode)]) (mput unique [v, lo, hi] (2 + (nodes.length : Int))) (2 + (nodes.length : Int)))
      (Q nodes unique (Option.getD (mget unique [v, lo, hi]) 0)))
def decision_Table__Event__e2_W (i : Int) (order : List Int) (place : List Int) (nodes : List GDNode) (unique : GMap Int) (memo : GMap Int) (Q : List GDNode → GMap Int → Int → Prop) : Prop :=
  decision_Table__Make__e2_W i 0 1 order place nodes unique memo fun u u1 r =>
  Q u u1 r
def decision_Table__level__e_W (r : Int) (order : List Int) (place : List Int) (nodes : List GDNode) (_unique : GMap Int) (_memo : GMap Int) (Q : Int → Prop) : Prop :=
  condW (decide (r < 2))
    (Q (order.length : Int))
    (rng (r - 2) ∧
    ((0 : Int) ≤ (r - 2) ∧ (r - 2) < (nodes.length : Int)) ∧
    ((0 : Int) ≤ (at' nodes (r - 2)).Var ∧ (at' nodes (r - 2)).Var < (place.length : Int)) ∧
    Q (at' place ((at' nodes (r - 2)).Var)))
def decision_Table__Kids__e_W (r : Int) (level : Int) (order : List Int) (place : List Int) (nodes : List GDNode) (unique : GMap Int) (memo : GMap Int) (Q : Int → Int → Prop) : Prop :=
  decision_Table__level__e_W r order place nodes unique memo fun r1 =>
  condW (r1 != level)
    (Q r r)
    (rng (r - 2) ∧
    ((0 : Int) ≤ (r - 2) ∧ (r - 2) < (nodes.length : Int)) ∧
    Q ((at' nodes (r - 2)).Lo) ((at' nodes (r - 2)).Hi))
def decision_Table__Choose__e_W : Nat → Int → Int → Int → (List Int) → (List Int) → (List GDNode) → (GMap Int) → (GMap Int) → (List GDNode → GMap Int → GMap Int → Int → Prop) → Prop
  | 0, _, _, _, _, _, _, _, _, _ => False
  | fu + 1, c, a, b, order, place, nodes, unique, memo, Q =>
    joinW (α := Unit) (fun next1 =>
      joinW (α := Bool) (fun next2 =>
        condW (c == 1)
          (next2 true)
          (next2 (a == b)))
        fun x =>
        condW x
          (Q nodes unique memo a)
          (condW (c == 0)
            (Q nodes unique memo b)
            (condW (a == 1)
              (condW (b == 0)
                (Q nodes unique memo c)
                (next1 ()))
              (next1 ()))))
      fun _ =>
      condW (Option.isSome (mget memo [c, a, b]))
        (Q nodes unique memo (Option.getD (mget memo [c, a, b]) 0))
        (decision_Table__level__e_W c order place nodes unique memo fun r =>
        decision_Table__level__e_W a order place nodes unique memo fun r1 =>
        decision_Table__level__e_W b order place nodes unique memo fun r2 =>
        decision_Table__Kids__e_W c (min (min r r1) r2) order place nodes unique memo fun r3 r4 =>
        decision_Table__Kids__e_W a (min (min r r1) r2) order place nodes unique memo fun r5 r6 =>
        decision_Table__Kids__e_W b (min (min r r1) r2) order place nodes unique memo fun r7 r8 =>
        decision_Table__Choose__e_W fu r3 r5 r7 order place nodes unique memo fun u u1 u2 lo =>
        decision_Table__Choose__e_W fu r4 r6 r8 order place u u1 u2 fun u3 u4 u5 hi =>
        ((0 : Int) ≤ (min (min r r1) r2) ∧ (min (min r r1) r2) < (order.length : Int)) ∧
        decision_Table__Make__e2_W (at' order (min (min r r1) r2)) lo hi order place u3 u4 u5 fun u6 u7 r9 =>
        Q u6 u7 (mput u5 [c, a, b] r9) r9)
def decision_Table__Not__e_W (a : Int) (order : List Int) (place : List Int) (nodes : List GDNode) (unique : GMap Int) (memo : GMap Int) (Q : List GDNode → GMap Int → GMap Int → Int → Prop) : Prop :=
  ∃ fu, decision_Table__Choose__e_W fu a 0 1 order place nodes unique memo fun u u1 u2 r =>
  Q u u1 u2 r
def decision_Table__And__e_W (a : Int) (b : Int) (order : List Int) (place : List Int) (nodes : List GDNode) (unique : GMap Int) (memo : GMap Int) (Q : List GDNode → GMap Int → GMap Int → Int → Prop) : Prop :=
  ∃ fu, decision_Table__Choose__e_W fu a b 0 order place nodes unique memo fun u u1 u2 r =>
  Q u u1 u2 r
def decision_Table__Or__e_W (a : Int) (b : Int) (order : List Int) (place : List Int) (nodes : List GDNode) (unique : GMap Int) (memo : GMap Int) (Q : List GDNode → GMap Int → GMap Int → Int → Prop) : Prop :=
  ∃ fu, decision_Table__Choose__e_W fu a 1 b order place nodes unique memo fun u u1 u2 r =>
  Q u u1 u2 r
def decision_Table__Xor__e_W (a : Int) (b : Int) (order : List Int) (place : List Int) (nodes : List GDNode) (unique : GMap Int) (memo : GMap Int) (Q : List GDNode → GMap Int → GMap Int → Int → Prop) : Prop :=
  decision_Table__Not__e_W b order place nodes unique memo fun u u1 u2 r =>
  ∃ fu, decision_Table__Choose__e_W fu a r b order place u u1 u2 fun u3 u4 u5 r1 =>
  Q u3 u4 u5 r1
def decision_Table__Small_1__e_W : Nat → Int → Int → (GMap Bool) → (List Int) → (List Int) → (List GDNode) → (GMap Int) → (GMap Int) → (GMap Bool → Prop) → Prop
  | 0, _, _, _, _, _, _, _, _, _ => False
  | fu + 1, r, u, u1, order, place, nodes, unique, memo, Q =>
    condW (decide (r < 2))
      (Q u1)
      (condW (Option.getD (mget u1 [r]) false)
        (Q u1)
        (condW (decide (u < ((GMap.n u1 : Nat) : Int)))
          (Q u1)
          (rng (r - 2) ∧
          ((0 : Int) ≤ (r - 2) ∧ (r - 2) < (nodes.length : Int)) ∧
          ∃ u2, (decision_Table__Small_1__e_W fu ((at' nodes (r - 2)).Lo) u (mput u1 [r] true) order place nodes unique memo fun y1 => y1 = u2) ∧
          rng (r - 2) ∧
          ((0 : Int) ≤ (r - 2) ∧ (r - 2) < (nodes.length : Int)) ∧
          ∃ u3, (decision_Table__Small_1__e_W fu ((at' nodes (r - 2)).Hi) u u2 order place nodes unique memo fun y2 => y2 = u3) ∧
          Q u3)))
def decision_Table__Small__e_W (root : Int) (most : Int) (order : List Int) (place : List Int) (nodes : List GDNode) (unique : GMap Int) (memo : GMap Int) (Q : Bool → Prop) : Prop :=
  ∃ fu, decision_Table__Small_1__e_W fu root most (mnew : GMap Bool) order place nodes unique memo fun u =>
  Q (decide (((GMap.n u : Nat) : Int) ≤ most))
def decision_Table__Export_1__e2_W : Nat → Int → Int → (GMap Int) → (List Int) → (List GDNode) → (List Int) → (List Int) → (List GDNode) → (GMap Int) → (GMap Int) → (GMap Int → List GDNode → Int → Prop) → Prop
  | 0, _, _, _, _, _, _, _, _, _, _, _ => False
  | fu + 1, r, Root, u, Order, Nodes, order, place, nodes, unique, memo, Q =>
    condW (Option.isSome (mget u [r]))
      (Q u Nodes (Option.getD (mget u [r]) 0))
      (rng (r - 2) ∧
      ((0 : Int) ≤ (r - 2) ∧ (r - 2) < (nodes.length : Int)) ∧
      decision_Table__Export_1__e2_W fu ((at' nodes (r - 2)).Lo) Root u Order Nodes order place nodes unique memo fun u1 u2 lo =>
      decision_Table__Export_1__e2_W fu ((at' nodes (r - 2)).Hi) Root u1 Order u2 order place nodes unique memo fun u3 u4 hi1 =>
      ((u4 ++ [(⟨(at' nodes (r - 2)).Var, lo, hi1⟩ : GDNode)]).length * 24 ≤ 140737488355328) ∧
      rng (1 + ((u4 ++ [(⟨(at' nodes (r - 2)).Var, lo, hi1⟩ : GDNode)]).length : Int)) ∧
      Q (mput u3 [r] (1 + ((u4 ++ [(⟨(at' nodes (r - 2)).Var, lo, hi1⟩ : GDNode)]).length : Int))) (u4 ++ [(⟨(at' nodes (r - 2)).Var, lo, hi1⟩ : GDNode)]) (Option.getD (mget (mput u3 [r] (1 + ((u4 ++ [(⟨(at' nodes (r - 2)).Var, lo, hi1⟩ : GDNode)]).length : Int))) [r]) 0))
def decision_Table__Export__e_W (root : Int) (order : List Int) (place : List Int) (nodes : List GDNode) (unique : GMap Int) (memo : GMap Int) (Q : GDiagram → Prop) : Prop :=
  (order.length * 8 ≤ 140737488355328) ∧
  ∃ fu, decision_Table__Export_1__e2_W fu root 0 (mput (mput (mnew : GMap Int) [0] 0) [1] 1) order ([] : List GDNode) order place nodes unique memo fun _ u1 r =>
  Q (⟨order, u1, r⟩ : GDiagram)
def decision_Table__Translate__e2_W (d : GDiagram) (order : List Int) (place : List Int) (nodes : List GDNode) (unique : GMap Int) (memo : GMap Int) (Q : List GDNode → GMap Int → GMap Int → Int → Prop) : Prop :=
  rng (2 + (d.Nodes.length : Int)) ∧
  mkOk 8 (2 + (d.Nodes.length : Int)) (2 + (d.Nodes.length : Int)) ∧
  ((0 : Int) ≤ 1 ∧ 1 < ((Int.toNat (2 + (d.Nodes.length : Int))) : Int)) ∧
  loopW (σ := Int × (List Int) × (List GDNode) × (GMap Int) × (GMap Int)) (0, (set' (rep' (2 + (d.Nodes.length : Int)) 0) 1 1), nodes, unique, memo) fun ⟨x, refs, x1, x2, x3⟩ next1 =>
    condW (decide (x < (d.Nodes.length : Int)))
      (((0 : Int) ≤ x ∧ x < (d.Nodes.length : Int)) ∧
      rng (2 + x) ∧
      ∃ u u1 r, (decision_Table__Event__e2_W ((at' d.Nodes x).Var) order place x1 x2 x3 fun y1 y2 y3 => y1 = u ∧ y2 = u1 ∧ y3 = r) ∧
      ((0 : Int) ≤ (at' d.Nodes x).Hi ∧ (at' d.Nodes x).Hi < (refs.length : Int)) ∧
      ((0 : Int) ≤ (at' d.Nodes x).Lo ∧ (at' d.Nodes x).Lo < (refs.length : Int)) ∧
      ∃ u2 u3 u4 r1, (∃ fu, decision_Table__Choose__e_W fu r (at' refs ((at' d.Nodes x).Hi)) (at' refs ((at' d.Nodes x).Lo)) order place u u1 x3 fun y4 y5 y6 y7 => y4 = u2 ∧ y5 = u3 ∧ y6 = u4 ∧ y7 = r1) ∧
      ((0 : Int) ≤ (2 + x) ∧ (2 + x) < (refs.length : Int)) ∧
      rng (x + 1) ∧
      next1 ((x + 1), (set' refs (2 + x) r1), u2, u3, u4))
      (((0 : Int) ≤ d.Root ∧ d.Root < (refs.length : Int)) ∧
      Q x1 x2 x3 (at' refs d.Root))
end Go.Gg
/- Formulas of functions. Conditions: none. -/
namespace Go.Gg
def slices_Index___int_int_W (s : List Int) (v : Int) (Q : Int → Prop) : Prop :=
  loopW (σ := Int) 0 fun x next1 =>
    condW (decide (x < (s.length : Int)))
      (((0 : Int) ≤ x ∧ x < (s.length : Int)) ∧
      condW (v == (at' s x))
        (Q x)
        (rng (x + 1) ∧
        next1 (x + 1)))
      (Q (-1))
def slices_Clone___int_int_W (s : List Int) (Q : List Int → Prop) : Prop :=
  ∀ isnil : Bool, (isnil = true → s = []) →
  condW isnil
    (Q [])
    ((([] ++ s).length * 8 ≤ 140737488355328) ∧
    Q ([] ++ s))
def slices_Insert_int__e_W (i : Int) (s : List Int) (v : List Int) (Q : List Int → Prop) : Prop :=
  ((0 : Int) ≤ i ∧ i ≤ (s.length : Int)) ∧ 0 < v.length ∧ (s.length + v.length) * 8 ≤ 140737488355328 ∧ Q (ins' s i v)
def slices_Contains___int_int_W (s : List Int) (v : Int) (Q : Bool → Prop) : Prop :=
  slices_Index___int_int_W s v fun r =>
  Q (decide (0 ≤ r))
end Go.Gg
/- Formulas of functions. Conditions: none. -/
namespace Go.Gg
def diagram_join__e_W (refs : List Int) (first : Int) (order : List Int) (place : List Int) (nodes : List GDNode) (unique : GMap Int) (memo : GMap Int) (Q : List GDNode → GMap Int → GMap Int → Int → Prop) : Prop :=
  loopW (σ := Int × Int × (List GDNode) × (GMap Int) × (GMap Int)) (first, 0, nodes, unique, memo) fun ⟨first1, x, x1, x2, x3⟩ next1 =>
    condW (decide (x < (refs.length : Int)))
      (((0 : Int) ≤ x ∧ x < (refs.length : Int)) ∧
      decision_Table__And__e_W first1 (at' refs x) order place x1 x2 x3 fun u u1 u2 first2 =>
      rng (x + 1) ∧
      next1 (first2, (x + 1), u, u1, u2))
      (Q x1 x2 x3 first1)
def diagram_join__e2_W (refs : List Int) (first : Int) (order : List Int) (place : List Int) (nodes : List GDNode) (unique : GMap Int) (memo : GMap Int) (Q : List GDNode → GMap Int → GMap Int → Int → Prop) : Prop :=
  loopW (σ := Int × Int × (List GDNode) × (GMap Int) × (GMap Int)) (first, 0, nodes, unique, memo) fun ⟨first1, x, x1, x2, x3⟩ next1 =>
    condW (decide (x < (refs.length : Int)))
      (((0 : Int) ≤ x ∧ x < (refs.length : Int)) ∧
      decision_Table__Or__e_W first1 (at' refs x) order place x1 x2 x3 fun u u1 u2 first2 =>
      rng (x + 1) ∧
      next1 (first2, (x + 1), u, u1, u2))
      (Q x1 x2 x3 first1)
def diagram_join__e3_W (refs : List Int) (first : Int) (order : List Int) (place : List Int) (nodes : List GDNode) (unique : GMap Int) (memo : GMap Int) (Q : List GDNode → GMap Int → GMap Int → Int → Prop) : Prop :=
  loopW (σ := Int × Int × (List GDNode) × (GMap Int) × (GMap Int)) (first, 0, nodes, unique, memo) fun ⟨first1, x, x1, x2, x3⟩ next1 =>
    condW (decide (x < (refs.length : Int)))
      (((0 : Int) ≤ x ∧ x < (refs.length : Int)) ∧
      decision_Table__Xor__e_W first1 (at' refs x) order place x1 x2 x3 fun u u1 u2 first2 =>
      rng (x + 1) ∧
      next1 (first2, (x + 1), u, u1, u2))
      (Q x1 x2 x3 first1)
def diagram_vote__e_W (refs : List Int) (k6 : Int) (order : List Int) (place : List Int) (nodes : List GDNode) (unique : GMap Int) (memo : GMap Int) (Q : List GDNode → GMap Int → GMap Int → Int → Prop) : Prop :=
  rng (k6 + 1) ∧
  mkOk 8 (k6 + 1) (k6 + 1) ∧
  ((0 : Int) ≤ 0 ∧ 0 < ((Int.toNat (k6 + 1)) : Int)) ∧
  loopW (σ := Int × (List Int) × (List GDNode) × (GMap Int) × (GMap Int)) (0, (set' (rep' (k6 + 1) 0) 0 1), nodes, unique, memo) fun ⟨x, need, x1, x2, x3⟩ next1 =>
    condW (decide (x < (refs.length : Int)))
      (((0 : Int) ≤ x ∧ x < (refs.length : Int)) ∧
      loopW (σ := Int × (List Int) × (List GDNode) × (GMap Int) × (GMap Int)) (k6, need, x1, x2, x3) fun ⟨j, need1, x4, x5, x6⟩ next2 =>
        condW (decide (0 < j))
          (rng (j - 1) ∧
          ((0 : Int) ≤ (j - 1) ∧ (j - 1) < (need1.length : Int)) ∧
          ((0 : Int) ≤ j ∧ j < (need1.length : Int)) ∧
          ∃ u u1 u2 r, (∃ fu, decision_Table__Choose__e_W fu (at' refs x) (at' need1 (j - 1)) (at' need1 j) order place x4 x5 x6 fun y1 y2 y3 y4 => y1 = u ∧ y2 = u1 ∧ y3 = u2 ∧ y4 = r) ∧
          ((0 : Int) ≤ j ∧ j < (need1.length : Int)) ∧
          rng (j - 1) ∧
          next2 ((j - 1), (set' need1 j r), u, u1, u2))
          (rng (x + 1) ∧
          next1 ((x + 1), need1, x4, x5, x6)))
      (((0 : Int) ≤ k6 ∧ k6 < (need.length : Int)) ∧
      Q x1 x2 x3 (at' need k6))
def diagram_node__e_W (x : GNode) (refs : List Int) (order : List Int) (place : List Int) (nodes : List GDNode) (unique : GMap Int) (memo : GMap Int) (Q : List GDNode → GMap Int → GMap Int → Int → Prop) : Prop :=
  condW (x.Kind == 0)
    (Q nodes unique memo x.K)
    (condW (x.Kind == 1)
      (((0 : Int) ≤ 0 ∧ 0 < (refs.length : Int)) ∧
      decision_Table__Not__e_W (at' refs 0) order place nodes unique memo fun u u1 u2 r =>
      Q u u1 u2 r)
      (condW (x.Kind == 2)
        (diagram_join__e_W refs 1 order place nodes unique memo fun u3 u4 u5 r1 =>
        Q u3 u4 u5 r1)
        (condW (x.Kind == 3)
          (diagram_join__e2_W refs 0 order place nodes unique memo fun u6 u7 u8 r2 =>
          Q u6 u7 u8 r2)
          (condW (x.Kind == 5)
            (diagram_join__e3_W refs 0 order place nodes unique memo fun u9 u10 u11 r3 =>
            Q u9 u10 u11 r3)
            (diagram_vote__e_W refs x.K order place nodes unique memo fun u12 u13 u14 r4 =>
            Q u12 u13 u14 r4)))))
def diagram_Build_W (f : GFormula) (o : List Int) (Q : GDiagram → Option Int → Prop) : Prop :=
  formula_Size_W f fun r _ r2 =>
  condW (Option.isSome r2)
    (Q (⟨[], [], 0⟩ : GDiagram) r2)
    (order_Check_W o f.Vars fun err =>
    condW (Option.isSome err)
      (Q (⟨[], [], 0⟩ : GDiagram) err)
      (joinW (α := GFormula) (fun next4 =>
        condW (decide (0 < r))
          (formula_Trim_W f fun r7 r8 =>
          condW (Option.isSome r8)
            (Q (⟨[], [], 0⟩ : GDiagram) r8)
            (next4 r7))
          (next4 (⟨f.Vars, [], f.Top⟩ : GFormula)))
        fun x =>
        decision_New_W o fun order place unique memo =>
        rng (x.Vars + (x.Nodes.length : Int)) ∧
        mkOk 8 (x.Vars + (x.Nodes.length : Int)) (x.Vars + (x.Nodes.length : Int)) ∧
        loopW (σ := Int × (List Int) × (GMap Int) × (List GDNode)) (0, (rep' (x.Vars + (x.Nodes.length : Int)) 0), unique, []) fun ⟨x1, refs, x2, x3⟩ next1 =>
          condW (decide (x1 < x.Vars))
            (decision_Table__Event__e2_W x1 order place x3 x2 memo fun u u1 r3 =>
            ((0 : Int) ≤ x1 ∧ x1 < (refs.length : Int)) ∧
            rng (x1 + 1) ∧
            next1 ((x1 + 1), (set' refs x1 r3), u1, u))
            (loopW (σ := Int × (List Int) × (GMap Int) × (GMap Int) × (List GDNode)) (0, refs, x2, memo, x3) fun ⟨x4, refs1, x5, x6, x7⟩ next2 =>
              condW (decide (x4 < (x.Nodes.length : Int)))
                (((0 : Int) ≤ x4 ∧ x4 < (x.Nodes.length : Int)) ∧
                loopW (σ := Int × (List Int)) (0, []) fun ⟨x8, args⟩ next3 =>
                  condW (decide (x8 < (((at' x.Nodes x4).Args).length : Int)))
                    (((0 : Int) ≤ x8 ∧ x8 < (((at' x.Nodes x4).Args).length : Int)) ∧
                    ((0 : Int) ≤ (at' ((at' x.Nodes x4).Args) x8) ∧ (at' ((at' x.Nodes x4).Args) x8) < (refs1.length : Int)) ∧
                    ((args ++ [(at' refs1 (at' ((at' x.Nodes x4).Args) x8))]).length * 8 ≤ 140737488355328) ∧
                    rng (x8 + 1) ∧
                    next3 ((x8 + 1), (args ++ [(at' refs1 (at' ((at' x.Nodes x4).Args) x8))])))
                    (rng (x.Vars + x4) ∧
                    ∃ u2 u3 u4 r4, (diagram_node__e_W (at' x.Nodes x4) args order place x7 x5 x6 fun y1 y2 y3 y4 => y1 = u2 ∧ y2 = u3 ∧ y3 = u4 ∧ y4 = r4) ∧
                    ((0 : Int) ≤ (x.Vars + x4) ∧ (x.Vars + x4) < (refs1.length : Int)) ∧
                    rng (x.Vars + x4) ∧
                    ((0 : Int) ≤ (x.Vars + x4) ∧ (x.Vars + x4) < (refs1.length : Int)) ∧
                    decision_Table__Small__e_W (at' (set' refs1 (x.Vars + x4) r4) (x.Vars + x4)) 4096 order place u2 u3 u4 fun r5 =>
                    condW (!r5)
                      (Q (⟨[], [], 0⟩ : GDiagram) (some 4))
                      (rng (x4 + 1) ∧
                      next2 ((x4 + 1), (set' refs1 (x.Vars + x4) r4), u3, u4, u2))))
                (((0 : Int) ≤ x.Top ∧ x.Top < (refs1.length : Int)) ∧
                decision_Table__Export__e_W (at' refs1 x.Top) order place x7 x5 x6 fun r6 =>
                Q r6 none))))
def diagram_checkNode_W (d : GDiagram) (at1 : List Int) (i : Int) (Q : Option Int → Prop) : Prop :=
  ((0 : Int) ≤ i ∧ i < (d.Nodes.length : Int)) ∧
  joinW (α := Bool) (fun next3 =>
    condW (decide ((at' d.Nodes i).Var < 0))
      (next3 true)
      (condW (decide ((d.Order.length : Int) ≤ (at' d.Nodes i).Var))
        (next3 true)
        (condW (decide ((min ((at' d.Nodes i).Lo) ((at' d.Nodes i).Hi)) < 0))
          (next3 true)
          (rng (1 + i) ∧
          next3 (decide ((1 + i) < (max ((at' d.Nodes i).Lo) ((at' d.Nodes i).Hi))))))))
    fun x =>
    condW x
      (Q (some 10))
      (condW ((at' d.Nodes i).Lo == (at' d.Nodes i).Hi)
        (Q (some 2))
        (loopW (σ := Int) 0 fun x1 next1 =>
          condW (decide (x1 < ([(at' d.Nodes i).Lo, (at' d.Nodes i).Hi].length : Int)))
            (((0 : Int) ≤ x1 ∧ x1 < ([(at' d.Nodes i).Lo, (at' d.Nodes i).Hi].length : Int)) ∧
            setW (at' [(at' d.Nodes i).Lo, (at' d.Nodes i).Hi] x1) fun r =>
            joinW (α := Bool) (fun next2 =>
              condW (decide (2 ≤ r))
                (rng (r - 2) ∧
                ((0 : Int) ≤ (r - 2) ∧ (r - 2) < (d.Nodes.length : Int)) ∧
                ((0 : Int) ≤ (at' d.Nodes (r - 2)).Var ∧ (at' d.Nodes (r - 2)).Var < (at1.length : Int)) ∧
                ((0 : Int) ≤ (at' d.Nodes i).Var ∧ (at' d.Nodes i).Var < (at1.length : Int)) ∧
                next2 (decide ((at' at1 ((at' d.Nodes (r - 2)).Var)) ≤ (at' at1 ((at' d.Nodes i).Var)))))
                (next2 false))
              fun x2 =>
              condW x2
                (Q (some 13))
                (rng (x1 + 1) ∧
                next1 (x1 + 1)))
            (Q none)))
def diagram_numbered_1__e_W : Nat → Int → GDiagram → Bool → Int → (List Bool) → (Bool → Int → List Bool → Prop) → Prop
  | 0, _, _, _, _, _, _ => False
  | fu + 1, r, u, u1, u2, u3, Q =>
    condW (decide (r < 2))
      (Q u1 u2 u3)
      (rng (r - 2) ∧
      ((0 : Int) ≤ (r - 2) ∧ (r - 2) < (u3.length : Int)) ∧
      condW (at' u3 (r - 2))
        (Q u1 u2 u3)
        (rng (r - 2) ∧
        ((0 : Int) ≤ (r - 2) ∧ (r - 2) < (u3.length : Int)) ∧
        rng (r - 2) ∧
        ((0 : Int) ≤ (r - 2) ∧ (r - 2) < (u.Nodes.length : Int)) ∧
        ∃ u4 u5 u6, (diagram_numbered_1__e_W fu ((at' u.Nodes (r - 2)).Lo) u u1 u2 (set' u3 (r - 2) true) fun y1 y2 y3 => y1 = u4 ∧ y2 = u5 ∧ y3 = u6) ∧
        u6.length = (set' u3 (r - 2) true).length ∧
        rng (r - 2) ∧
        ((0 : Int) ≤ (r - 2) ∧ (r - 2) < (u.Nodes.length : Int)) ∧
        ∃ u7 u8 u9, (diagram_numbered_1__e_W fu ((at' u.Nodes (r - 2)).Hi) u u4 u5 u6 fun y4 y5 y6 => y4 = u7 ∧ y5 = u8 ∧ y6 = u9) ∧
        u9.length = u6.length ∧
        joinW (α := Bool) (fun next1 =>
          condW u7
            (rng (r - 2) ∧
            next1 ((r - 2) == u8))
            (next1 false))
          fun x =>
          rng (u8 + 1) ∧
          Q x (u8 + 1) u9))
def diagram_numbered_W (d : GDiagram) (Q : Bool → Prop) : Prop :=
  mkOk 1 (d.Nodes.length : Int) (d.Nodes.length : Int) ∧
  ∃ fu, diagram_numbered_1__e_W fu d.Root d true 0 (rep' (d.Nodes.length : Int) false) fun ok next1 u =>
  u.length = (rep' (d.Nodes.length : Int) false).length ∧
  condW ok
    (Q (next1 == (d.Nodes.length : Int)))
    (Q false)
def diagram_Check_W (d : GDiagram) (Q : Option Int → Prop) : Prop :=
  order_Positions_W d.Order fun r r1 =>
  condW (Option.isSome r1)
    (Q r1)
    (condW (decide (4096 < (d.Nodes.length : Int)))
      (Q (some 4))
      (loopW (σ := Int × (GMap Bool)) (0, (mnew : GMap Bool)) fun ⟨x, x1⟩ next1 =>
        condW (decide (x < (d.Nodes.length : Int)))
          (((0 : Int) ≤ x ∧ x < (d.Nodes.length : Int)) ∧
          diagram_checkNode_W d r x fun err =>
          condW (Option.isSome err)
            (Q err)
            (condW (Option.getD (mget x1 [(at' d.Nodes x).Var, (at' d.Nodes x).Lo, (at' d.Nodes x).Hi]) false)
              (Q (some 6))
              (rng (x + 1) ∧
              next1 ((x + 1), (mput x1 [(at' d.Nodes x).Var, (at' d.Nodes x).Lo, (at' d.Nodes x).Hi] true)))))
          (joinW (α := Bool) (fun next2 =>
            condW (decide (d.Root < 0))
              (next2 true)
              (rng (1 + (d.Nodes.length : Int)) ∧
              next2 (decide ((1 + (d.Nodes.length : Int)) < d.Root))))
            fun x2 =>
            condW x2
              (Q (some 10))
              (diagram_numbered_W d fun r2 =>
              condW (!r2)
                (Q (some 2))
                (Q none)))))
end Go.Gg
/- Formulas of functions. Conditions: none. -/
namespace Go.Gg
def ref15_add__e_W : Nat → (List Int) → Int → (List Bool) → Int → Int → (List GDNode) → (List GDNode → List Int → Int → Int → Prop) → Prop
  | 0, _, _, _, _, _, _, _ => False
  | fu + 1, Order, Root, table, level, state, u, Q =>
    condW (level == (Order.length : Int))
      (((0 : Int) ≤ state ∧ state < (table.length : Int)) ∧
      condW (at' table state)
        (Q u Order Root 1)
        (Q u Order Root 0))
      (rng (level + 1) ∧
      ref15_add__e_W fu Order Root table (level + 1) state u fun u1 r r1 r2 =>
      rng (level + 1) ∧
      ((0 : Int) ≤ level ∧ level < (r.length : Int)) ∧
      (((0 : Int) ≤ (at' r level) ∧ (at' r level) ≤ 64) ∧ rng (1 * 2 ^ (Int.toNat (at' r level)))) ∧
      ∃ u2 r3 r4 r5, (ref15_add__e_W fu r r1 table (level + 1) (bits .or .i64 state (1 * 2 ^ (Int.toNat (at' r level)))) u1 fun y1 y2 y3 y4 => y1 = u2 ∧ y2 = r3 ∧ y3 = r4 ∧ y4 = r5) ∧
      condW (r2 == r5)
        (Q u2 r3 r4 r2)
        (((0 : Int) ≤ level ∧ level < (r3.length : Int)) ∧
        loopW (σ := Int) 0 fun i next1 =>
          condW (decide (i < (u2.length : Int)))
            (((0 : Int) ≤ i ∧ i < (u2.length : Int)) ∧
            condW (decide ([(at' u2 i).Var, (at' u2 i).Lo, (at' u2 i).Hi] = [(at' r3 level), r2, r5]))
              (rng (2 + i) ∧
              Q u2 r3 r4 (2 + i))
              (rng (i + 1) ∧
              next1 (i + 1)))
            (((u2 ++ [(⟨(at' r3 level), r2, r5⟩ : GDNode)]).length * 24 ≤ 140737488355328) ∧
            rng (1 + ((u2 ++ [(⟨(at' r3 level), r2, r5⟩ : GDNode)]).length : Int)) ∧
            Q (u2 ++ [(⟨(at' r3 level), r2, r5⟩ : GDNode)]) r3 r4 (1 + ((u2 ++ [(⟨(at' r3 level), r2, r5⟩ : GDNode)]).length : Int)))))
def ref15_Of_W (table : List Bool) (o : List Int) (Q : GDiagram → Prop) : Prop :=
  (o.length * 8 ≤ 140737488355328) ∧
  ∃ fu, ref15_add__e_W fu o 0 table 0 0 ([] : List GDNode) fun u r _ r2 =>
  Q (⟨r, u, r2⟩ : GDiagram)
def ref15_Formula_W (f : GFormula) (Q : List Bool → Prop) : Prop :=
  loopW (σ := Int × (List Bool)) (0, []) fun ⟨s, out⟩ next1 =>
    (((0 : Int) ≤ f.Vars ∧ f.Vars ≤ 64) ∧ rng (1 * 2 ^ (Int.toNat f.Vars))) ∧
    condW (decide (s < (1 * 2 ^ (Int.toNat f.Vars))))
      (ref08_Value_W f s fun r =>
      ((out ++ [r]).length * 1 ≤ 140737488355328) ∧
      rng (s + 1) ∧
      next1 ((s + 1), (out ++ [r])))
      (Q out)
def ref15_Build_W (f : GFormula) (o : List Int) (Q : GDiagram → Prop) : Prop :=
  ref15_Formula_W f fun r =>
  ref15_Of_W r o fun r1 =>
  Q r1
end Go.Gg
/- Formulas of functions. Conditions: none. -/
namespace Go.Gg
end Go.Gg
/- Formulas of functions. Conditions: none. -/
namespace Go.Gg
def sifting_reorder_W (d : GDiagram) (o : List Int) (Q : GDiagram → Option Int → Prop) : Prop :=
  decision_New_W o fun order place unique memo =>
  decision_Table__Translate__e2_W d order place ([] : List GDNode) unique memo fun u u1 u2 r =>
  decision_Table__Small__e_W r 4096 order place u u1 u2 fun r1 =>
  condW (!r1)
    (Q (⟨[], [], 0⟩ : GDiagram) (some 4))
    (decision_Table__Export__e_W r order place u u1 u2 fun r2 =>
    Q r2 none)
def sifting_moved_1__e_W (i : Int) (u : Int) (Q : Bool → Prop) : Prop :=
  Q (i == u)
def slices_IndexFunc___int_int__e_W (s : List Int) (u : Int) (Q : Int → Prop) : Prop :=
  loopW (σ := Int) 0 fun x next1 =>
    condW (decide (x < (s.length : Int)))
      (((0 : Int) ≤ x ∧ x < (s.length : Int)) ∧
      sifting_moved_1__e_W (at' s x) u fun r =>
      condW r
        (Q x)
        (rng (x + 1) ∧
        next1 (x + 1)))
      (Q (-1))
def slices_DeleteFunc___int_int__e_W (u : Int) (s : List Int) (Q : List Int → Prop) : Prop :=
  slices_IndexFunc___int_int__e_W s u fun i =>
  condW (i == (-1))
    (Q s)
    (rng (i + 1) ∧
    loopW (σ := Int × Int × (List Int)) (i, (i + 1), s) fun ⟨i1, j, s1⟩ next1 =>
      condW (decide (j < (s1.length : Int)))
        (((0 : Int) ≤ j ∧ j < (s1.length : Int)) ∧
        sifting_moved_1__e_W (at' s1 j) u fun r =>
        condW (!r)
          (((0 : Int) ≤ i1 ∧ i1 < (s1.length : Int)) ∧
          rng (i1 + 1) ∧
          rng (j + 1) ∧
          next1 ((i1 + 1), (j + 1), (set' s1 i1 (at' s1 j))))
          (rng (j + 1) ∧
          next1 (i1, (j + 1), s1)))
        (((0 : Int) ≤ i1 ∧ i1 ≤ (s1.length : Int) ∧ (s1.length : Int) ≤ (s1.length : Int)) ∧
        ((0 : Int) ≤ 0 ∧ 0 ≤ i1 ∧ i1 ≤ (s1.length : Int)) ∧
        Q (List.take (Int.toNat i1) (List.take (0 + Int.toNat i1) s1))))
def sifting_moved_W (o : List Int) (event : Int) (place : Int) (Q : List Int → Prop) : Prop :=
  slices_Clone___int_int_W o fun r =>
  slices_DeleteFunc___int_int__e_W event r fun u =>
  slices_Insert_int__e_W place u [event] fun rest =>
  Q rest
def sifting_Sift_1__e_W (a : Int) (b : Int) (u : List Int) (Q : Int → Prop) : Prop :=
  ((0 : Int) ≤ b ∧ b < (u.length : Int)) ∧
  ((0 : Int) ≤ a ∧ a < (u.length : Int)) ∧
  rng ((at' u b) - (at' u a)) ∧
  Q ((at' u b) - (at' u a))
def slices_insertionSortCmpFunc_int__e_W (a : Int) (b : Int) (data : List Int) (u : List Int) (Q : List Int → Prop) : Prop :=
  rng (a + 1) ∧
  loopW (σ := Int × (List Int)) ((a + 1), data) fun ⟨i, data1⟩ next1 =>
    condW (decide (i < b))
      (loopW (σ := Int × (List Int)) (i, data1) fun ⟨j, data2⟩ next2 =>
        condW (decide (a < j))
          (((0 : Int) ≤ j ∧ j < (data2.length : Int)) ∧
          rng (j - 1) ∧
          ((0 : Int) ≤ (j - 1) ∧ (j - 1) < (data2.length : Int)) ∧
          ∃ r, (sifting_Sift_1__e_W (at' data2 j) (at' data2 (j - 1)) u fun y1 => y1 = r) ∧
          condW (decide (r < 0))
            (rng (j - 1) ∧
            rng (j - 1) ∧
            ((0 : Int) ≤ (j - 1) ∧ (j - 1) < (data2.length : Int)) ∧
            ((0 : Int) ≤ j ∧ j < (data2.length : Int)) ∧
            ((0 : Int) ≤ j ∧ j < (data2.length : Int)) ∧
            ((0 : Int) ≤ (j - 1) ∧ (j - 1) < (data2.length : Int)) ∧
            rng (j - 1) ∧
            next2 ((j - 1), (set' (set' data2 j (at' data2 (j - 1))) (j - 1) (at' data2 j))))
            (rng (i + 1) ∧
            next1 ((i + 1), data2)))
          (rng (i + 1) ∧
          next1 ((i + 1), data2)))
      (Q data1)
def slices_stableCmpFunc_int__e_W (n : Int) (data : List Int) (u : List Int) (Q : List Int → Prop) : Prop :=
  loopW (σ := Int × Int × (List Int)) (0, 20, data) fun ⟨a, b, data1⟩ next1 =>
    condW (decide (b ≤ n))
      (slices_insertionSortCmpFunc_int__e_W a b data1 u fun data2 =>
      data2.length = data1.length ∧
      rng (b + 20) ∧
      next1 (b, (b + 20), data2))
      (slices_insertionSortCmpFunc_int__e_W a n data1 u fun data3 =>
      data3.length = data1.length ∧
      loopW (σ := Int) 20 fun blockSize next2 =>
        condW (decide (blockSize < n))
          (rng (2 * blockSize) ∧
          loopW (σ := Unit) () fun _ _ =>
            condW (decide ((2 * blockSize) ≤ n))
              (rng (0 + blockSize) ∧
              False)
              (rng (0 + blockSize) ∧
              condW (decide ((0 + blockSize) < n))
                (False)
                (rng (blockSize * 2) ∧
                next2 (blockSize * 2))))
          (Q data3))
def slices_SortStableFunc___int_int__e_W (x : List Int) (u : List Int) (Q : List Int → Prop) : Prop :=
  slices_stableCmpFunc_int__e_W (x.length : Int) x u fun x1 =>
  x1.length = x.length ∧
  Q x1
def sifting_Sift_W (d : GDiagram) (Q : GDiagram → Option Int → Prop) : Prop :=
  diagram_Check_W d fun err =>
  condW (Option.isSome err)
    (Q (⟨[], [], 0⟩ : GDiagram) err)
    (mkOk 8 (d.Order.length : Int) (d.Order.length : Int) ∧
    loopW (σ := Int × (List Int)) (0, (rep' (d.Order.length : Int) 0)) fun ⟨x, x1⟩ next1 =>
      condW (decide (x < (d.Nodes.length : Int)))
        (((0 : Int) ≤ x ∧ x < (d.Nodes.length : Int)) ∧
        ((0 : Int) ≤ (at' d.Nodes x).Var ∧ (at' d.Nodes x).Var < (x1.length : Int)) ∧
        rng ((at' x1 ((at' d.Nodes x).Var)) + 1) ∧
        ((0 : Int) ≤ (at' d.Nodes x).Var ∧ (at' d.Nodes x).Var < (x1.length : Int)) ∧
        rng (x + 1) ∧
        next1 ((x + 1), (set' x1 ((at' d.Nodes x).Var) ((at' x1 ((at' d.Nodes x).Var)) + 1))))
        (order_Natural_W (d.Order.length : Int) fun r r1 =>
        condW (Option.isSome r1)
          (Q (⟨[], [], 0⟩ : GDiagram) r1)
          (slices_SortStableFunc___int_int__e_W r x1 fun events =>
          events.length = r.length ∧
          loopW (σ := Int × GDiagram) (0, d) fun ⟨x2, x3⟩ next2 =>
            condW (decide (x2 < (r.length : Int)))
              (((0 : Int) ≤ x2 ∧ x2 < (r.length : Int)) ∧
              loopW (σ := Bool × Int × GDiagram) (false, 0, x3) fun ⟨found, x4, x5⟩ next3 =>
                condW (decide (x4 < (x3.Order.length : Int)))
                  (detW (sifting_moved_W x3.Order (at' events x2) x4) fun r2 =>
                  detW2 (sifting_reorder_W x3 r2) fun r3 r4 =>
                  joinW (α := Bool) (fun next4 =>
                    condW (Option.isNone r4)
                      (condW (!found)
                        (next4 true)
                        (next4 (decide ((r3.Nodes.length : Int) < (x5.Nodes.length : Int)))))
                      (next4 false))
                    fun x6 =>
                    condW x6
                      (rng (x4 + 1) ∧
                      next3 (true, (x4 + 1), r3))
                      (rng (x4 + 1) ∧
                      next3 (found, (x4 + 1), x5)))
                  (rng (x2 + 1) ∧
                  next2 ((x2 + 1), x5)))
              (sifting_reorder_W x3 x3.Order fun r5 r6 =>
              Q r5 r6))))
def sifting_Best_1__e_W (o : List Int) (u : GDiagram) (u1 : Bool) (u2 : GDiagram) (Q : Bool → GDiagram → Prop) : Prop :=
  sifting_reorder_W u o fun r r1 =>
  joinW (α := Bool) (fun next1 =>
    condW (Option.isNone r1)
      (condW (!u1)
        (next1 true)
        (next1 (decide ((r.Nodes.length : Int) < (u2.Nodes.length : Int)))))
      (next1 false))
    fun x =>
    condW x
      (Q true r)
      (Q u1 u2)
def sifting_orders__e_W : Nat → (List Int) → Int → GDiagram → Bool → GDiagram → (Bool → GDiagram → Prop) → Prop
  | 0, _, _, _, _, _, _ => False
  | fu + 1, part, n, u, u1, u2, Q =>
    condW ((part.length : Int) == n)
      (sifting_Best_1__e_W part u u1 u2 fun u3 u4 =>
      Q u3 u4)
      (loopW (σ := Int × Bool × GDiagram) (0, u1, u2) fun ⟨x, x1, x2⟩ next1 =>
        condW (decide (x < n))
          (slices_Contains___int_int_W part x fun r =>
          condW (!r)
            (slices_Clone___int_int_W part fun r1 =>
            ((r1 ++ [x]).length * 8 ≤ 140737488355328) ∧
            sifting_orders__e_W fu (r1 ++ [x]) n u x1 x2 fun u5 u6 =>
            rng (x + 1) ∧
            next1 ((x + 1), u5, u6))
            (rng (x + 1) ∧
            next1 ((x + 1), x1, x2)))
          (Q x1 x2))
def sifting_Best_W (d : GDiagram) (Q : GDiagram → Option Int → Prop) : Prop :=
  diagram_Check_W d fun err =>
  condW (Option.isSome err)
    (Q (⟨[], [], 0⟩ : GDiagram) err)
    (condW (decide (6 < (d.Order.length : Int)))
      (Q (⟨[], [], 0⟩ : GDiagram) (some 4))
      (∃ fu, sifting_orders__e_W fu [] (d.Order.length : Int) d false (⟨[], [], 0⟩ : GDiagram) fun _ best =>
      Q best none))
def sifting_Reorder_W (d : GDiagram) (o : List Int) (Q : GDiagram → Option Int → Prop) : Prop :=
  diagram_Check_W d fun err =>
  condW (Option.isSome err)
    (Q (⟨[], [], 0⟩ : GDiagram) err)
    (order_Check_W o (o.length : Int) fun err1 =>
    condW (Option.isSome err1)
      (Q (⟨[], [], 0⟩ : GDiagram) err1)
      (condW ((o.length : Int) != (d.Order.length : Int))
        (Q (⟨[], [], 0⟩ : GDiagram) (some 11))
        (sifting_reorder_W d o fun r r1 =>
        Q r r1)))
end Go.Gg
/- Formulas of functions. Conditions: none. -/
namespace Go.Gg
end Go.Gg
/- Formulas of functions. Conditions: none. -/
namespace Go.Gg
def law17_example_W (Q : GFormula → Prop) : Prop :=
  Q (⟨4, [(⟨2, 0, [0, 1]⟩ : GNode), (⟨2, 0, [2, 3]⟩ : GNode), (⟨3, 0, [4, 5]⟩ : GNode)], 6⟩ : GFormula)
def law17_awake_W (Q : Bool → Prop) : Prop :=
  law17_example_W fun r =>
  ref15_Build_W r [0, 2, 1, 3] fun r1 =>
  sifting_Sift_W r1 fun r2 r3 =>
  sifting_Best_W r1 fun r4 r5 =>
  condW (Option.isNone r3)
    (condW (Option.isNone r5)
      (condW ((r1.Nodes.length : Int) == 6)
        (condW ((r2.Nodes.length : Int) == 4)
          (condW ((r4.Nodes.length : Int) == 4)
            (base_Ints_W r4.Order [0, 1, 2, 3] fun r6 =>
            Q r6)
            (Q false))
          (Q false))
        (Q false))
      (Q false))
    (Q false)
end Go.Gg
/- Formulas of functions. Conditions: none. -/
namespace Go.Gg
def law17_SiftingBuilds_W (f : GFormula) (a : List Int) (b : List Int) (Q : Bool → Prop) : Prop :=
  joinW (α := Bool) (fun next1 =>
    law17_awake_W fun r8 =>
    condW (!r8)
      (next1 true)
      (ref08_Check_W f fun r9 =>
      condW (r9 != 0)
        (next1 true)
        (condW (decide (8 < f.Vars))
          (next1 true)
          (ref14_Check_W a f.Vars fun r10 =>
          condW (r10 != 0)
            (next1 true)
            (ref14_Check_W b f.Vars fun r11 =>
            next1 (r11 != 0))))))
    fun x =>
    condW x
      (law17_awake_W fun r =>
      Q r)
      (diagram_Build_W f a fun r1 r2 =>
      diagram_Build_W f b fun r3 r4 =>
      sifting_Reorder_W r1 b fun r5 r6 =>
      condW (Option.isNone r2)
        (condW (Option.isNone r4)
          (condW (Option.isNone r6)
            (base_Diagram_W r3 r5 fun r7 =>
            Q r7)
            (Q false))
          (Q false))
        (Q false))
end Go.Gg
