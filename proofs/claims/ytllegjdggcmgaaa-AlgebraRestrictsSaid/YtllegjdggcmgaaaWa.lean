/- The structures of the program and how they are encoded. Conditions: none. -/
import Derived.Test.YtllegjdggcmgaaaGc
import Derived.Test.YtllegjdggcmgaaaGd
/- The structures of the program and how they are encoded. Conditions: none. -/
namespace Go.Gg
structure GDNode where
  Var : Int
  Lo : Int
  Hi : Int
instance : Inhabited GDNode := ⟨⟨0, 0, 0⟩⟩
def eDNode (r : GDNode) : AV := .agg [.int .i64 r.Var, .int .i64 r.Lo, .int .i64 r.Hi]
structure GDiagram where
  Order : List Int
  Nodes : List GDNode
  Root : Int
instance : Inhabited GDiagram := ⟨⟨[], [], 0⟩⟩
def eDiagram (r : GDiagram) : AV := .agg [eL (AV.int .i64) r.Order, eL eDNode r.Nodes, .int .i64 r.Root]
structure GOther where
  D : GDiagram
  I : Int
instance : Inhabited GOther := ⟨⟨default, 0⟩⟩
def eOther (r : GOther) : AV := .agg [eL (AV.int .i64) r.D.Order, eL eDNode r.D.Nodes, .int .i64 r.D.Root, .int .i64 r.I]
structure GNode where
  Kind : Int
  K : Int
  Args : List Int
instance : Inhabited GNode := ⟨⟨0, 0, []⟩⟩
structure GFormula where
  Vars : Int
  Nodes : List GNode
  Top : Int
instance : Inhabited GFormula := ⟨⟨0, [], 0⟩⟩
structure GCube where
  Yes : Int
  No : Int
instance : Inhabited GCube := ⟨⟨0, 0⟩⟩
structure GRat where
  Neg : Bool
  Num : List Int
  Den : List Int
instance : Inhabited GRat := ⟨⟨false, [], []⟩⟩
structure Gwalk where
  Formula : GFormula
  events : List Int
  seen : List Bool
instance : Inhabited Gwalk := ⟨⟨default, [], []⟩⟩
end Go.Gg
/- Formulas of functions. Conditions: none. -/
namespace Go.Gg
end Go.Gg
/- Formulas of functions. Conditions: none. -/
namespace Go.Gg
def base_Num_W (err : Option Int) (Q : Int → Prop) : Prop :=
  condW (Option.isNone err)
    (Q 0)
    (condW (Option.isSome err)
      (Q (Option.getD err 0))
      (Q (-1)))
def base_Ints_W (a : List Int) (b : List Int) (Q : Bool → Prop) : Prop :=
  condW ((a.length : Int) != (b.length : Int))
    (Q false)
    (loopW (σ := Int) 0 fun x next1 =>
      condW (decide (x < (a.length : Int)))
        (((0 : Int) ≤ x ∧ x < (a.length : Int)) ∧
        ((0 : Int) ≤ x ∧ x < (b.length : Int)) ∧
        condW ((at' a x) != (at' b x))
          (Q false)
          (rng (x + 1) ∧
          next1 (x + 1)))
        (Q true))
def base_Diagram_W (a : GDiagram) (b : GDiagram) (Q : Bool → Prop) : Prop :=
  condW (a.Root != b.Root)
    (Q false)
    (base_Ints_W a.Order b.Order fun r =>
    condW (!r)
      (Q false)
      (condW ((a.Nodes.length : Int) != (b.Nodes.length : Int))
        (Q false)
        (loopW (σ := Int) 0 fun x next1 =>
          condW (decide (x < (a.Nodes.length : Int)))
            (((0 : Int) ≤ x ∧ x < (a.Nodes.length : Int)) ∧
            ((0 : Int) ≤ x ∧ x < (b.Nodes.length : Int)) ∧
            condW (!decide ([(at' a.Nodes x).Var, (at' a.Nodes x).Lo, (at' a.Nodes x).Hi] = [(at' b.Nodes x).Var, (at' b.Nodes x).Lo, (at' b.Nodes x).Hi]))
              (Q false)
              (rng (x + 1) ∧
              next1 (x + 1)))
            (Q true))))
end Go.Gg
/- Formulas of functions. Conditions: none. -/
namespace Go.Gg
end Go.Gg
/- Formulas of functions. Conditions: none. -/
namespace Go.Gg
def order_Check_W (o : List Int) (vars : Int) (Q : Option Int → Prop) : Prop :=
  joinW (α := Bool) (fun next3 =>
    condW (decide (vars < 0))
      (next3 true)
      (next3 (decide (24 < vars))))
    fun x =>
    condW x
      (Q (some 3))
      (condW ((o.length : Int) != vars)
        (Q (some 11))
        (mkOk 1 vars vars ∧
        loopW (σ := Int × (List Bool)) (0, (rep' vars false)) fun ⟨x1, seen⟩ next1 =>
          condW (decide (x1 < (o.length : Int)))
            (((0 : Int) ≤ x1 ∧ x1 < (o.length : Int)) ∧
            joinW (α := Bool) (fun next2 =>
              condW (decide ((at' o x1) < 0))
                (next2 true)
                (next2 (decide (vars ≤ (at' o x1)))))
              fun x2 =>
              condW x2
                (Q (some 3))
                (((0 : Int) ≤ (at' o x1) ∧ (at' o x1) < (seen.length : Int)) ∧
                condW (at' seen (at' o x1))
                  (Q (some 6))
                  (((0 : Int) ≤ (at' o x1) ∧ (at' o x1) < (seen.length : Int)) ∧
                  rng (x1 + 1) ∧
                  next1 ((x1 + 1), (set' seen (at' o x1) true)))))
            (Q none)))
def order_places_W (o : List Int) (Q : List Int → Prop) : Prop :=
  mkOk 8 (o.length : Int) (o.length : Int) ∧
  loopW (σ := Int × (List Int)) (0, (rep' (o.length : Int) 0)) fun ⟨x, out⟩ next1 =>
    condW (decide (x < (o.length : Int)))
      (((0 : Int) ≤ x ∧ x < (o.length : Int)) ∧
      ((0 : Int) ≤ (at' o x) ∧ (at' o x) < (out.length : Int)) ∧
      rng (x + 1) ∧
      next1 ((x + 1), (set' out (at' o x) x)))
      (Q out)
def order_Positions_W (o : List Int) (Q : List Int → Option Int → Prop) : Prop :=
  order_Check_W o (o.length : Int) fun err =>
  condW (Option.isSome err)
    (Q [] err)
    (order_places_W o fun r =>
    Q r none)
end Go.Gg
/- Formulas of functions. Conditions: none. -/
namespace Go.Gg
def ref14_Check_W (o : List Int) (vars : Int) (Q : Int → Prop) : Prop :=
  condW (decide (vars < 0))
    (Q 3)
    (condW (decide (24 < vars))
      (Q 3)
      (condW ((o.length : Int) != vars)
        (Q 11)
        (loopW (σ := Int) 0 fun i next1 =>
          condW (decide (i < vars))
            (((0 : Int) ≤ i ∧ i < (o.length : Int)) ∧
            condW (decide ((at' o i) < 0))
              (Q 3)
              (((0 : Int) ≤ i ∧ i < (o.length : Int)) ∧
              condW (decide (vars ≤ (at' o i)))
                (Q 3)
                (loopW (σ := Int) 0 fun k1 next2 =>
                  condW (decide (k1 < i))
                    (((0 : Int) ≤ k1 ∧ k1 < (o.length : Int)) ∧
                    ((0 : Int) ≤ i ∧ i < (o.length : Int)) ∧
                    condW ((at' o k1) == (at' o i))
                      (Q 6)
                      (rng (k1 + 1) ∧
                      next2 (k1 + 1)))
                    (rng (i + 1) ∧
                    next1 (i + 1)))))
            (Q 0))))
def ref14_Place_W (l : List Int) (n : Int) (Q : Int → Prop) : Prop :=
  loopW (σ := Int) 0 fun i next1 =>
    condW (decide (i < (l.length : Int)))
      (((0 : Int) ≤ i ∧ i < (l.length : Int)) ∧
      condW ((at' l i) == n)
        (Q i)
        (rng (i + 1) ∧
        next1 (i + 1)))
      (Q (-1))
def ref14_Place__r0_W (l : List Int) (lo : Nat) (ll : Nat) (n : Int) (Q : List Int → Int → Prop) : Prop :=
  loopW (σ := Int) 0 fun i next1 =>
    condW (decide (i < (ll : Int)))
      (((0 : Int) ≤ i ∧ i < (ll : Int)) ∧
      (Int.toNat ((lo : Int) + i)) < l.length ∧
      condW ((at' l ((lo : Int) + i)) == n)
        (Q l i)
        (rng (i + 1) ∧
        next1 (i + 1)))
      (Q l (-1))
end Go.Gg
/- Formulas of functions. Conditions: none. -/
namespace Go.Gg
def slices_Equal___int_int_W (s1 : List Int) (s2 : List Int) (Q : Bool → Prop) : Prop :=
  condW ((s1.length : Int) != (s2.length : Int))
    (Q false)
    (loopW (σ := Int) 0 fun x next1 =>
      condW (decide (x < (s1.length : Int)))
        (((0 : Int) ≤ x ∧ x < (s1.length : Int)) ∧
        ((0 : Int) ≤ x ∧ x < (s2.length : Int)) ∧
        condW ((at' s1 x) != (at' s2 x))
          (Q false)
          (rng (x + 1) ∧
          next1 (x + 1)))
        (Q true))
def slices_Clone___int_int_W (s : List Int) (Q : List Int → Prop) : Prop :=
  ∀ isnil : Bool, (isnil = true → s = []) →
  condW isnil
    (Q [])
    ((([] ++ s).length * 8 ≤ 140737488355328) ∧
    Q ([] ++ s))
end Go.Gg
/- Formulas of functions. Conditions: none. -/
namespace Go.Gg
def diagram_checkNode_W (d : GDiagram) (at1 : List Int) (i : Int) (Q : Option Int → Prop) : Prop :=
  ((0 : Int) ≤ i ∧ i < (d.Nodes.length : Int)) ∧
  joinW (α := Bool) (fun next3 =>
    condW (decide ((at' d.Nodes i).Var < 0))
      (next3 true)
      (condW (decide ((d.Order.length : Int) ≤ (at' d.Nodes i).Var))
        (next3 true)
        (condW (decide ((min ((at' d.Nodes i).Lo) ((at' d.Nodes i).Hi)) < 0))
          (next3 true)
          (rng (1 + i) ∧
          next3 (decide ((1 + i) < (max ((at' d.Nodes i).Lo) ((at' d.Nodes i).Hi))))))))
    fun x =>
    condW x
      (Q (some 10))
      (condW ((at' d.Nodes i).Lo == (at' d.Nodes i).Hi)
        (Q (some 2))
        (loopW (σ := Int) 0 fun x1 next1 =>
          condW (decide (x1 < ([(at' d.Nodes i).Lo, (at' d.Nodes i).Hi].length : Int)))
            (((0 : Int) ≤ x1 ∧ x1 < ([(at' d.Nodes i).Lo, (at' d.Nodes i).Hi].length : Int)) ∧
            setW (at' [(at' d.Nodes i).Lo, (at' d.Nodes i).Hi] x1) fun r =>
            joinW (α := Bool) (fun next2 =>
              condW (decide (2 ≤ r))
                (rng (r - 2) ∧
                ((0 : Int) ≤ (r - 2) ∧ (r - 2) < (d.Nodes.length : Int)) ∧
                ((0 : Int) ≤ (at' d.Nodes (r - 2)).Var ∧ (at' d.Nodes (r - 2)).Var < (at1.length : Int)) ∧
                ((0 : Int) ≤ (at' d.Nodes i).Var ∧ (at' d.Nodes i).Var < (at1.length : Int)) ∧
                next2 (decide ((at' at1 ((at' d.Nodes (r - 2)).Var)) ≤ (at' at1 ((at' d.Nodes i).Var)))))
                (next2 false))
              fun x2 =>
              condW x2
                (Q (some 13))
                (rng (x1 + 1) ∧
                next1 (x1 + 1)))
            (Q none)))
def diagram_numbered_1__e_W : Nat → Int → GDiagram → Bool → Int → (List Bool) → (Bool → Int → List Bool → Prop) → Prop
  | 0, _, _, _, _, _, _ => False
  | fu + 1, r, u, u1, u2, u3, Q =>
    condW (decide (r < 2))
      (Q u1 u2 u3)
      (rng (r - 2) ∧
      ((0 : Int) ≤ (r - 2) ∧ (r - 2) < (u3.length : Int)) ∧
      condW (at' u3 (r - 2))
        (Q u1 u2 u3)
        (rng (r - 2) ∧
        ((0 : Int) ≤ (r - 2) ∧ (r - 2) < (u3.length : Int)) ∧
        rng (r - 2) ∧
        ((0 : Int) ≤ (r - 2) ∧ (r - 2) < (u.Nodes.length : Int)) ∧
        ∃ u4 u5 u6, (diagram_numbered_1__e_W fu ((at' u.Nodes (r - 2)).Lo) u u1 u2 (set' u3 (r - 2) true) fun y1 y2 y3 => y1 = u4 ∧ y2 = u5 ∧ y3 = u6) ∧
        u6.length = (set' u3 (r - 2) true).length ∧
        rng (r - 2) ∧
        ((0 : Int) ≤ (r - 2) ∧ (r - 2) < (u.Nodes.length : Int)) ∧
        ∃ u7 u8 u9, (diagram_numbered_1__e_W fu ((at' u.Nodes (r - 2)).Hi) u u4 u5 u6 fun y4 y5 y6 => y4 = u7 ∧ y5 = u8 ∧ y6 = u9) ∧
        u9.length = u6.length ∧
        joinW (α := Bool) (fun next1 =>
          condW u7
            (rng (r - 2) ∧
            next1 ((r - 2) == u8))
            (next1 false))
          fun x =>
          rng (u8 + 1) ∧
          Q x (u8 + 1) u9))
def diagram_numbered_W (d : GDiagram) (Q : Bool → Prop) : Prop :=
  mkOk 1 (d.Nodes.length : Int) (d.Nodes.length : Int) ∧
  ∃ fu, diagram_numbered_1__e_W fu d.Root d true 0 (rep' (d.Nodes.length : Int) false) fun ok next1 u =>
  u.length = (rep' (d.Nodes.length : Int) false).length ∧
  condW ok
    (Q (next1 == (d.Nodes.length : Int)))
    (Q false)
def diagram_Check_W (d : GDiagram) (Q : Option Int → Prop) : Prop :=
  order_Positions_W d.Order fun r r1 =>
  condW (Option.isSome r1)
    (Q r1)
    (condW (decide (4096 < (d.Nodes.length : Int)))
      (Q (some 4))
      (loopW (σ := Int × (GMap Bool)) (0, (mnew : GMap Bool)) fun ⟨x, x1⟩ next1 =>
        condW (decide (x < (d.Nodes.length : Int)))
          (((0 : Int) ≤ x ∧ x < (d.Nodes.length : Int)) ∧
          diagram_checkNode_W d r x fun err =>
          condW (Option.isSome err)
            (Q err)
            (condW (Option.getD (mget x1 [(at' d.Nodes x).Var, (at' d.Nodes x).Lo, (at' d.Nodes x).Hi]) false)
              (Q (some 6))
              (rng (x + 1) ∧
              next1 ((x + 1), (mput x1 [(at' d.Nodes x).Var, (at' d.Nodes x).Lo, (at' d.Nodes x).Hi] true)))))
          (joinW (α := Bool) (fun next2 =>
            condW (decide (d.Root < 0))
              (next2 true)
              (rng (1 + (d.Nodes.length : Int)) ∧
              next2 (decide ((1 + (d.Nodes.length : Int)) < d.Root))))
            fun x2 =>
            condW x2
              (Q (some 10))
              (diagram_numbered_W d fun r2 =>
              condW (!r2)
                (Q (some 2))
                (Q none)))))
def diagram_Value_W (d : GDiagram) (state : Int) (Q : Bool → Option Int → Prop) : Prop :=
  diagram_Check_W d fun err =>
  condW (Option.isSome err)
    (Q false err)
    (joinW (α := Bool) (fun next2 =>
      condW (decide (state < 0))
        (next2 true)
        ((((0 : Int) ≤ (d.Order.length : Int) ∧ (d.Order.length : Int) ≤ 64) ∧ rng (1 * 2 ^ (Int.toNat (d.Order.length : Int)))) ∧
        next2 (decide ((1 * 2 ^ (Int.toNat (d.Order.length : Int))) ≤ state))))
      fun x =>
      condW x
        (Q false (some 3))
        (loopW (σ := Int) d.Root fun r next1 =>
          condW (decide (2 ≤ r))
            (rng (r - 2) ∧
            ((0 : Int) ≤ (r - 2) ∧ (r - 2) < (d.Nodes.length : Int)) ∧
            ((0 : Int) ≤ (at' d.Nodes (r - 2)).Var ∧ (at' d.Nodes (r - 2)).Var ≤ 64) ∧
            condW ((bits .and .i64 (state / 2 ^ (Int.toNat ((at' d.Nodes (r - 2)).Var))) 1) == 1)
              (next1 ((at' d.Nodes (r - 2)).Hi))
              (next1 ((at' d.Nodes (r - 2)).Lo)))
            (Q (r == 1) none)))
def diagram_Event_W (i : Int) (o : List Int) (Q : GDiagram → Option Int → Prop) : Prop :=
  order_Check_W o (o.length : Int) fun err =>
  condW (Option.isSome err)
    (Q (⟨[], [], 0⟩ : GDiagram) err)
    (joinW (α := Bool) (fun next1 =>
      condW (decide (i < 0))
        (next1 true)
        (next1 (decide ((o.length : Int) ≤ i))))
      fun x =>
      condW x
        (Q (⟨[], [], 0⟩ : GDiagram) (some 10))
        (slices_Clone___int_int_W o fun r =>
        Q (⟨r, [(⟨i, 0, 1⟩ : GDNode)], 2⟩ : GDiagram) none))
end Go.Gg
/- Formulas of functions. Conditions: none. -/
namespace Go.Gg
def ref15_behind_W (d : GDiagram) (ref : Int) (event : Int) (Q : Bool → Prop) : Prop :=
  condW (decide (ref < 2))
    (Q true)
    (rng (ref - 2) ∧
    ((0 : Int) ≤ (ref - 2) ∧ (ref - 2) < (d.Nodes.length : Int)) ∧
    detW (ref14_Place_W d.Order ((at' d.Nodes (ref - 2)).Var)) fun r =>
    detW (ref14_Place_W d.Order event) fun r1 =>
    Q (decide (r1 < r)))
def ref15_node_W (d : GDiagram) (i : Int) (Q : Int → Prop) : Prop :=
  ((0 : Int) ≤ i ∧ i < (d.Nodes.length : Int)) ∧
  condW (decide ((at' d.Nodes i).Var < 0))
    (Q 10)
    (condW (decide ((d.Order.length : Int) ≤ (at' d.Nodes i).Var))
      (Q 10)
      (condW (decide ((at' d.Nodes i).Lo < 0))
        (Q 10)
        (rng (i + 1) ∧
        condW (decide ((i + 1) < (at' d.Nodes i).Lo))
          (Q 10)
          (condW (decide ((at' d.Nodes i).Hi < 0))
            (Q 10)
            (rng (i + 1) ∧
            condW (decide ((i + 1) < (at' d.Nodes i).Hi))
              (Q 10)
              (condW ((at' d.Nodes i).Lo == (at' d.Nodes i).Hi)
                (Q 2)
                (ref15_behind_W d ((at' d.Nodes i).Lo) ((at' d.Nodes i).Var) fun r =>
                condW (!r)
                  (Q 13)
                  (ref15_behind_W d ((at' d.Nodes i).Hi) ((at' d.Nodes i).Var) fun r1 =>
                  condW (!r1)
                    (Q 13)
                    (loopW (σ := Int) 0 fun k1 next1 =>
                      condW (decide (k1 < i))
                        (((0 : Int) ≤ k1 ∧ k1 < (d.Nodes.length : Int)) ∧
                        condW (decide ([(at' d.Nodes k1).Var, (at' d.Nodes k1).Lo, (at' d.Nodes k1).Hi] = [(at' d.Nodes i).Var, (at' d.Nodes i).Lo, (at' d.Nodes i).Hi]))
                          (Q 6)
                          (rng (k1 + 1) ∧
                          next1 (k1 + 1)))
                        (Q 0))))))))))
def ref15_number__e_W : Nat → GDiagram → Int → (List Int) → (List Int → Prop) → Prop
  | 0, _, _, _, _ => False
  | fu + 1, d, ref, before, Q =>
    condW (decide (ref < 2))
      (Q before)
      (ref14_Place__r0_W before 0 before.length ref fun before1 r =>
      before1.length = before.length ∧
      condW (decide (0 ≤ r))
        (Q before1)
        (rng (ref - 2) ∧
        ((0 : Int) ≤ (ref - 2) ∧ (ref - 2) < (d.Nodes.length : Int)) ∧
        ref15_number__e_W fu d ((at' d.Nodes (ref - 2)).Lo) before1 fun before2 =>
        ref15_number__e_W fu d ((at' d.Nodes (ref - 2)).Hi) before2 fun before3 =>
        ((before3 ++ [ref]).length * 8 ≤ 140737488355328) ∧
        Q (before3 ++ [ref])))
def ref15_Check_W (d : GDiagram) (Q : Int → Prop) : Prop :=
  ref14_Check_W d.Order (d.Order.length : Int) fun e =>
  condW (e != 0)
    (Q e)
    (condW (decide (4096 < (d.Nodes.length : Int)))
      (Q 4)
      (loopW (σ := Int) 0 fun i next1 =>
        condW (decide (i < (d.Nodes.length : Int)))
          (ref15_node_W d i fun e1 =>
          condW (e1 != 0)
            (Q e1)
            (rng (i + 1) ∧
            next1 (i + 1)))
          (condW (decide (d.Root < 0))
            (Q 10)
            (rng (1 + (d.Nodes.length : Int)) ∧
            condW (decide ((1 + (d.Nodes.length : Int)) < d.Root))
              (Q 10)
              (∃ fu, ref15_number__e_W fu d d.Root ([] : List Int) fun u =>
              condW ((u.length : Int) != (d.Nodes.length : Int))
                (Q 2)
                (loopW (σ := Int) 0 fun i1 next2 =>
                  condW (decide (i1 < (u.length : Int)))
                    (((0 : Int) ≤ i1 ∧ i1 < (u.length : Int)) ∧
                    rng (2 + i1) ∧
                    condW ((at' u i1) != (2 + i1))
                      (Q 2)
                      (rng (i1 + 1) ∧
                      next2 (i1 + 1)))
                    (Q 0)))))))
def ref15_value_W (d : GDiagram) (ref : Int) (state : Int) (Q : Bool → Prop) : Prop :=
  loopW (σ := Int) ref fun ref1 next1 =>
    condW (decide (1 < ref1))
      (rng (ref1 - 2) ∧
      ((0 : Int) ≤ (ref1 - 2) ∧ (ref1 - 2) < (d.Nodes.length : Int)) ∧
      ((0 : Int) ≤ (at' d.Nodes (ref1 - 2)).Var ∧ (at' d.Nodes (ref1 - 2)).Var ≤ 64) ∧
      condW ((bits .and .i64 (state / 2 ^ (Int.toNat ((at' d.Nodes (ref1 - 2)).Var))) 1) == 1)
        (next1 ((at' d.Nodes (ref1 - 2)).Hi))
        (next1 ((at' d.Nodes (ref1 - 2)).Lo)))
      (Q (ref1 == 1))
def ref15_Value_W (d : GDiagram) (state : Int) (Q : Bool → Prop) : Prop :=
  ref15_value_W d d.Root state fun r =>
  Q r
def ref15_Table_W (d : GDiagram) (Q : List Bool → Prop) : Prop :=
  loopW (σ := Int × (List Bool)) (0, []) fun ⟨s, out⟩ next1 =>
    (((0 : Int) ≤ (d.Order.length : Int) ∧ (d.Order.length : Int) ≤ 64) ∧ rng (1 * 2 ^ (Int.toNat (d.Order.length : Int)))) ∧
    condW (decide (s < (1 * 2 ^ (Int.toNat (d.Order.length : Int)))))
      (ref15_Value_W d s fun r =>
      ((out ++ [r]).length * 1 ≤ 140737488355328) ∧
      rng (s + 1) ∧
      next1 ((s + 1), (out ++ [r])))
      (Q out)
def ref15_add__e_W : Nat → (List Int) → Int → (List Bool) → Int → Int → (List GDNode) → (List GDNode → List Int → Int → Int → Prop) → Prop
  | 0, _, _, _, _, _, _, _ => False
  | fu + 1, Order, Root, table, level, state, u, Q =>
    condW (level == (Order.length : Int))
      (((0 : Int) ≤ state ∧ state < (table.length : Int)) ∧
      condW (at' table state)
        (Q u Order Root 1)
        (Q u Order Root 0))
      (rng (level + 1) ∧
      ref15_add__e_W fu Order Root table (level + 1) state u fun u1 r r1 r2 =>
      rng (level + 1) ∧
      ((0 : Int) ≤ level ∧ level < (r.length : Int)) ∧
      (((0 : Int) ≤ (at' r level) ∧ (at' r level) ≤ 64) ∧ rng (1 * 2 ^ (Int.toNat (at' r level)))) ∧
      ∃ u2 r3 r4 r5, (ref15_add__e_W fu r r1 table (level + 1) (bits .or .i64 state (1 * 2 ^ (Int.toNat (at' r level)))) u1 fun y1 y2 y3 y4 => y1 = u2 ∧ y2 = r3 ∧ y3 = r4 ∧ y4 = r5) ∧
      condW (r2 == r5)
        (Q u2 r3 r4 r2)
        (((0 : Int) ≤ level ∧ level < (r3.length : Int)) ∧
        loopW (σ := Int) 0 fun i next1 =>
          condW (decide (i < (u2.length : Int)))
            (((0 : Int) ≤ i ∧ i < (u2.length : Int)) ∧
            condW (decide ([(at' u2 i).Var, (at' u2 i).Lo, (at' u2 i).Hi] = [(at' r3 level), r2, r5]))
              (rng (2 + i) ∧
              Q u2 r3 r4 (2 + i))
              (rng (i + 1) ∧
              next1 (i + 1)))
            (((u2 ++ [(⟨(at' r3 level), r2, r5⟩ : GDNode)]).length * 24 ≤ 140737488355328) ∧
            rng (1 + ((u2 ++ [(⟨(at' r3 level), r2, r5⟩ : GDNode)]).length : Int)) ∧
            Q (u2 ++ [(⟨(at' r3 level), r2, r5⟩ : GDNode)]) r3 r4 (1 + ((u2 ++ [(⟨(at' r3 level), r2, r5⟩ : GDNode)]).length : Int)))))
def ref15_Of_W (table : List Bool) (o : List Int) (Q : GDiagram → Prop) : Prop :=
  (o.length * 8 ≤ 140737488355328) ∧
  ∃ fu, ref15_add__e_W fu o 0 table 0 0 ([] : List GDNode) fun u r _ r2 =>
  Q (⟨r, u, r2⟩ : GDiagram)
def ref15_Constant_W (v : Bool) (o : List Int) (Q : GDiagram → Prop) : Prop :=
  (o.length * 8 ≤ 140737488355328) ∧
  condW v
    (Q (⟨o, [], 1⟩ : GDiagram))
    (Q (⟨o, [], 0⟩ : GDiagram))
end Go.Gg
/- Formulas of functions. Conditions: none. -/
namespace Go.Gg
def decision_New_W (order : List Int) (Q : List Int → List Int → GMap Int → GMap Int → Prop) : Prop :=
  (order.length * 8 ≤ 140737488355328) ∧
  mkOk 8 (order.length : Int) (order.length : Int) ∧
  loopW (σ := Int × (List Int)) (0, (rep' (order.length : Int) 0)) fun ⟨x, x1⟩ next1 =>
    condW (decide (x < (order.length : Int)))
      (((0 : Int) ≤ x ∧ x < (order.length : Int)) ∧
      ((0 : Int) ≤ (at' order x) ∧ (at' order x) < (x1.length : Int)) ∧
      rng (x + 1) ∧
      next1 ((x + 1), (set' x1 (at' order x) x)))
      (Q order x1 (mnew : GMap Int) (mnew : GMap Int))
def decision_Table__Make__e2_W (v : Int) (lo : Int) (hi : Int) (_order : List Int) (_place : List Int) (nodes : List GDNode) (unique : GMap Int) (_memo : GMap Int) (Q : List GDNode → GMap Int → Int → Prop) : Prop :=
  condW (lo == hi)
    (Q nodes unique lo)
    (condW (!(Option.isSome (mget unique [v, lo, hi])))
      (rng (2 + (nodes.length : Int)) ∧
      ((nodes ++ [(⟨v, lo, hi⟩ : GDNode)]).length * 24 ≤ 140737488355328) ∧
      Q (nodes ++ [(⟨v, lo, hi⟩ : GDNode)]) (mput unique [v, lo, hi] (2 + (nodes.length : Int))) (2 + (nodes.length : Int)))
      (Q nodes unique (Option.getD (mget unique [v, lo, hi]) 0)))
def decision_Table__Import__e2_W (d : GDiagram) (order : List Int) (place : List Int) (nodes : List GDNode) (unique : GMap Int) (memo : GMap Int) (Q : List GDNode → GMap Int → Int → Prop) : Prop :=
  rng (2 + (d.Nodes.length : Int)) ∧
  mkOk 8 (2 + (d.Nodes.length : Int)) (2 + (d.Nodes.length : Int)) ∧
  ((0 : Int) ≤ 1 ∧ 1 < ((Int.toNat (2 + (d.Nodes.length : Int))) : Int)) ∧
  loopW (σ := Int × (List Int) × (List GDNode) × (GMap Int)) (0, (set' (rep' (2 + (d.Nodes.length : Int)) 0) 1 1), nodes, unique) fun ⟨x, refs, x1, x2⟩ next1 =>
    condW (decide (x < (d.Nodes.length : Int)))
      (((0 : Int) ≤ x ∧ x < (d.Nodes.length : Int)) ∧
      rng (2 + x) ∧
      ((0 : Int) ≤ (at' d.Nodes x).Lo ∧ (at' d.Nodes x).Lo < (refs.length : Int)) ∧
      ((0 : Int) ≤ (at' d.Nodes x).Hi ∧ (at' d.Nodes x).Hi < (refs.length : Int)) ∧
      ∃ u u1 r, (decision_Table__Make__e2_W ((at' d.Nodes x).Var) (at' refs ((at' d.Nodes x).Lo)) (at' refs ((at' d.Nodes x).Hi)) order place x1 x2 memo fun y1 y2 y3 => y1 = u ∧ y2 = u1 ∧ y3 = r) ∧
      ((0 : Int) ≤ (2 + x) ∧ (2 + x) < (refs.length : Int)) ∧
      rng (x + 1) ∧
      next1 ((x + 1), (set' refs (2 + x) r), u, u1))
      (((0 : Int) ≤ d.Root ∧ d.Root < (refs.length : Int)) ∧
      Q x1 x2 (at' refs d.Root))
def decision_Table__level__e_W (r : Int) (order : List Int) (place : List Int) (nodes : List GDNode) (_unique : GMap Int) (_memo : GMap Int) (Q : Int → Prop) : Prop :=
  condW (decide (r < 2))
    (Q (order.length : Int))
    (rng (r - 2) ∧
    ((0 : Int) ≤ (r - 2) ∧ (r - 2) < (nodes.length : Int)) ∧
    ((0 : Int) ≤ (at' nodes (r - 2)).Var ∧ (at' nodes (r - 2)).Var < (place.length : Int)) ∧
    Q (at' place ((at' nodes (r - 2)).Var)))
def decision_Table__Kids__e_W (r : Int) (level : Int) (order : List Int) (place : List Int) (nodes : List GDNode) (unique : GMap Int) (memo : GMap Int) (Q : Int → Int → Prop) : Prop :=
  decision_Table__level__e_W r order place nodes unique memo fun r1 =>
  condW (r1 != level)
    (Q r r)
    (rng (r - 2) ∧
    ((0 : Int) ≤ (r - 2) ∧ (r - 2) < (nodes.length : Int)) ∧
    Q ((at' nodes (r - 2)).Lo) ((at' nodes (r - 2)).Hi))
def decision_Table__Choose__e_W : Nat → Int → Int → Int → (List Int) → (List Int) → (List GDNode) → (GMap Int) → (GMap Int) → (List GDNode → GMap Int → GMap Int → Int → Prop) → Prop
  | 0, _, _, _, _, _, _, _, _, _ => False
  | fu + 1, c, a, b, order, place, nodes, unique, memo, Q =>
    joinW (α := Unit) (fun next1 =>
      joinW (α := Bool) (fun next2 =>
        condW (c == 1)
          (next2 true)
          (next2 (a == b)))
        fun x =>
        condW x
          (Q nodes unique memo a)
          (condW (c == 0)
            (Q nodes unique memo b)
            (condW (a == 1)
              (condW (b == 0)
                (Q nodes unique memo c)
                (next1 ()))
              (next1 ()))))
      fun _ =>
      condW (Option.isSome (mget memo [c, a, b]))
        (Q nodes unique memo (Option.getD (mget memo [c, a, b]) 0))
        (decision_Table__level__e_W c order place nodes unique memo fun r =>
        decision_Table__level__e_W a order place nodes unique memo fun r1 =>
        decision_Table__level__e_W b order place nodes unique memo fun r2 =>
        decision_Table__Kids__e_W c (min (min r r1) r2) order place nodes unique memo fun r3 r4 =>
        decision_Table__Kids__e_W a (min (min r r1) r2) order place nodes unique memo fun r5 r6 =>
        decision_Table__Kids__e_W b (min (min r r1) r2) order place nodes unique memo fun r7 r8 =>
        decision_Table__Choose__e_W fu r3 r5 r7 order place nodes unique memo fun u u1 u2 lo =>
        decision_Table__Choose__e_W fu r4 r6 r8 order place u u1 u2 fun u3 u4 u5 hi =>
        ((0 : Int) ≤ (min (min r r1) r2) ∧ (min (min r r1) r2) < (order.length : Int)) ∧
        decision_Table__Make__e2_W (at' order (min (min r r1) r2)) lo hi order place u3 u4 u5 fun u6 u7 r9 =>
        Q u6 u7 (mput u5 [c, a, b] r9) r9)
def decision_Table__Event__e_W (i : Int) (order : List Int) (place : List Int) (nodes : List GDNode) (unique : GMap Int) (memo : GMap Int) (Q : List GDNode → GMap Int → Int → Prop) : Prop :=
  decision_Table__Make__e2_W i 0 1 order place nodes unique memo fun u u1 r =>
  Q u u1 r
def decision_Table__Compose_1__e_W : Nat → Int → Int → Int → (GMap Int) → (List Int) → (List Int) → (List GDNode) → (GMap Int) → (GMap Int) → (GMap Int → List GDNode → GMap Int → GMap Int → Int → Prop) → Prop
  | 0, _, _, _, _, _, _, _, _, _, _ => False
  | fu + 1, r, u, u1, u2, order, place, nodes, unique, memo, Q =>
    ∃ r1, (decision_Table__level__e_W r order place nodes unique memo fun y1 => y1 = r1) ∧
    ((0 : Int) ≤ u ∧ u < (place.length : Int)) ∧
    condW (decide ((at' place u) < r1))
      (Q u2 nodes unique memo r)
      (condW (Option.isSome (mget u2 [r]))
        (Q u2 nodes unique memo (Option.getD (mget u2 [r]) 0))
        (rng (r - 2) ∧
        ((0 : Int) ≤ (r - 2) ∧ (r - 2) < (nodes.length : Int)) ∧
        joinW (α := Int × (GMap Int) × (List GDNode) × (GMap Int) × (GMap Int)) (fun next1 =>
          condW ((at' nodes (r - 2)).Var == u)
            (∃ fu, decision_Table__Choose__e_W fu u1 ((at' nodes (r - 2)).Hi) ((at' nodes (r - 2)).Lo) order place nodes unique memo fun u3 u4 u5 x5 =>
            next1 (x5, u2, u3, u4, u5))
            (∃ u6 u7 r2, (decision_Table__Event__e_W ((at' nodes (r - 2)).Var) order place nodes unique memo fun y2 y3 y4 => y2 = u6 ∧ y3 = u7 ∧ y4 = r2) ∧
            ∃ u8 u9 u10 u11 r3, (decision_Table__Compose_1__e_W fu ((at' nodes (r - 2)).Hi) u u1 u2 order place u6 u7 memo fun y5 y6 y7 y8 y9 => y5 = u8 ∧ y6 = u9 ∧ y7 = u10 ∧ y8 = u11 ∧ y9 = r3) ∧
            ∃ u12 u13 u14 u15 r4, (decision_Table__Compose_1__e_W fu ((at' nodes (r - 2)).Lo) u u1 u8 order place u9 u10 u11 fun y10 y11 y12 y13 y14 => y10 = u12 ∧ y11 = u13 ∧ y12 = u14 ∧ y13 = u15 ∧ y14 = r4) ∧
            ∃ u16 u17 u18 x6, (∃ fu, decision_Table__Choose__e_W fu r2 r3 r4 order place u13 u14 u15 fun y15 y16 y17 y18 => y15 = u16 ∧ y16 = u17 ∧ y17 = u18 ∧ y18 = x6) ∧
            next1 (x6, u12, u16, u17, u18)))
          fun ⟨x, x1, x2, x3, x4⟩ =>
          Q (mput x1 [r] x) x2 x3 x4 x))
def decision_Table__Compose__e_W (r : Int) (event : Int) (by1 : Int) (order : List Int) (place : List Int) (nodes : List GDNode) (unique : GMap Int) (memo : GMap Int) (Q : List GDNode → GMap Int → GMap Int → Int → Prop) : Prop :=
  ∃ fu, decision_Table__Compose_1__e_W fu r event by1 (mnew : GMap Int) order place nodes unique memo fun _ u1 u2 u3 r1 =>
  Q u1 u2 u3 r1
def decision_Table__Restrict__e_W (r : Int) (event : Int) (failed : Bool) (order : List Int) (place : List Int) (nodes : List GDNode) (unique : GMap Int) (memo : GMap Int) (Q : List GDNode → GMap Int → GMap Int → Int → Prop) : Prop :=
  condW failed
    (decision_Table__Compose__e_W r event 1 order place nodes unique memo fun u u1 u2 r1 =>
    Q u u1 u2 r1)
    (decision_Table__Compose__e_W r event 0 order place nodes unique memo fun u3 u4 u5 r2 =>
    Q u3 u4 u5 r2)
def decision_Table__And__e_W (a : Int) (b : Int) (order : List Int) (place : List Int) (nodes : List GDNode) (unique : GMap Int) (memo : GMap Int) (Q : List GDNode → GMap Int → GMap Int → Int → Prop) : Prop :=
  ∃ fu, decision_Table__Choose__e_W fu a b 0 order place nodes unique memo fun u u1 u2 r =>
  Q u u1 u2 r
def decision_Table__Small_1__e_W : Nat → Int → Int → (GMap Bool) → (List Int) → (List Int) → (List GDNode) → (GMap Int) → (GMap Int) → (GMap Bool → Prop) → Prop
  | 0, _, _, _, _, _, _, _, _, _ => False
  | fu + 1, r, u, u1, order, place, nodes, unique, memo, Q =>
    condW (decide (r < 2))
      (Q u1)
      (condW (Option.getD (mget u1 [r]) false)
        (Q u1)
        (condW (decide (u < ((GMap.n u1 : Nat) : Int)))
          (Q u1)
          (rng (r - 2) ∧
          ((0 : Int) ≤ (r - 2) ∧ (r - 2) < (nodes.length : Int)) ∧
          ∃ u2, (decision_Table__Small_1__e_W fu ((at' nodes (r - 2)).Lo) u (mput u1 [r] true) order place nodes unique memo fun y1 => y1 = u2) ∧
          rng (r - 2) ∧
          ((0 : Int) ≤ (r - 2) ∧ (r - 2) < (nodes.length : Int)) ∧
          ∃ u3, (decision_Table__Small_1__e_W fu ((at' nodes (r - 2)).Hi) u u2 order place nodes unique memo fun y2 => y2 = u3) ∧
          Q u3)))
def decision_Table__Small__e_W (root : Int) (most : Int) (order : List Int) (place : List Int) (nodes : List GDNode) (unique : GMap Int) (memo : GMap Int) (Q : Bool → Prop) : Prop :=
  ∃ fu, decision_Table__Small_1__e_W fu root most (mnew : GMap Bool) order place nodes unique memo fun u =>
  Q (decide (((GMap.n u : Nat) : Int) ≤ most))
def decision_Table__Export_1__e2_W : Nat → Int → Int → (GMap Int) → (List Int) → (List GDNode) → (List Int) → (List Int) → (List GDNode) → (GMap Int) → (GMap Int) → (GMap Int → List GDNode → Int → Prop) → Prop
  | 0, _, _, _, _, _, _, _, _, _, _, _ => False
  | fu + 1, r, Root, u, Order, Nodes, order, place, nodes, unique, memo, Q =>
    condW (Option.isSome (mget u [r]))
      (Q u Nodes (Option.getD (mget u [r]) 0))
      (rng (r - 2) ∧
      ((0 : Int) ≤ (r - 2) ∧ (r - 2) < (nodes.length : Int)) ∧
      decision_Table__Export_1__e2_W fu ((at' nodes (r - 2)).Lo) Root u Order Nodes order place nodes unique memo fun u1 u2 lo =>
      decision_Table__Export_1__e2_W fu ((at' nodes (r - 2)).Hi) Root u1 Order u2 order place nodes unique memo fun u3 u4 hi1 =>
      ((u4 ++ [(⟨(at' nodes (r - 2)).Var, lo, hi1⟩ : GDNode)]).length * 24 ≤ 140737488355328) ∧
      rng (1 + ((u4 ++ [(⟨(at' nodes (r - 2)).Var, lo, hi1⟩ : GDNode)]).length : Int)) ∧
      Q (mput u3 [r] (1 + ((u4 ++ [(⟨(at' nodes (r - 2)).Var, lo, hi1⟩ : GDNode)]).length : Int))) (u4 ++ [(⟨(at' nodes (r - 2)).Var, lo, hi1⟩ : GDNode)]) (Option.getD (mget (mput u3 [r] (1 + ((u4 ++ [(⟨(at' nodes (r - 2)).Var, lo, hi1⟩ : GDNode)]).length : Int))) [r]) 0))
def decision_Table__Export__e_W (root : Int) (order : List Int) (place : List Int) (nodes : List GDNode) (unique : GMap Int) (memo : GMap Int) (Q : GDiagram → Prop) : Prop :=
  (order.length * 8 ≤ 140737488355328) ∧
  ∃ fu, decision_Table__Export_1__e2_W fu root 0 (mput (mput (mnew : GMap Int) [0] 0) [1] 1) order ([] : List GDNode) order place nodes unique memo fun _ u1 r =>
  Q (⟨order, u1, r⟩ : GDiagram)
def decision_Table__Or__e_W (a : Int) (b : Int) (order : List Int) (place : List Int) (nodes : List GDNode) (unique : GMap Int) (memo : GMap Int) (Q : List GDNode → GMap Int → GMap Int → Int → Prop) : Prop :=
  ∃ fu, decision_Table__Choose__e_W fu a 1 b order place nodes unique memo fun u u1 u2 r =>
  Q u u1 u2 r
def decision_Table__Not__e_W (a : Int) (order : List Int) (place : List Int) (nodes : List GDNode) (unique : GMap Int) (memo : GMap Int) (Q : List GDNode → GMap Int → GMap Int → Int → Prop) : Prop :=
  ∃ fu, decision_Table__Choose__e_W fu a 0 1 order place nodes unique memo fun u u1 u2 r =>
  Q u u1 u2 r
def decision_Table__Xor__e_W (a : Int) (b : Int) (order : List Int) (place : List Int) (nodes : List GDNode) (unique : GMap Int) (memo : GMap Int) (Q : List GDNode → GMap Int → GMap Int → Int → Prop) : Prop :=
  decision_Table__Not__e_W b order place nodes unique memo fun u u1 u2 r =>
  ∃ fu, decision_Table__Choose__e_W fu a r b order place u u1 u2 fun u3 u4 u5 r1 =>
  Q u3 u4 u5 r1
end Go.Gg
/- Formulas of functions. Conditions: none. -/
namespace Go.Gg
def algebra_Count_W (d : GDiagram) (Q : Int → Option Int → Prop) : Prop :=
  diagram_Check_W d fun err =>
  condW (Option.isSome err)
    (Q 0 err)
    (rng (2 + (d.Nodes.length : Int)) ∧
    mkOk 8 (2 + (d.Nodes.length : Int)) (2 + (d.Nodes.length : Int)) ∧
    (((0 : Int) ≤ (d.Order.length : Int) ∧ (d.Order.length : Int) ≤ 64) ∧ rng (1 * 2 ^ (Int.toNat (d.Order.length : Int)))) ∧
    ((0 : Int) ≤ 1 ∧ 1 < ((Int.toNat (2 + (d.Nodes.length : Int))) : Int)) ∧
    loopW (σ := Int × (List Int)) (0, (set' (rep' (2 + (d.Nodes.length : Int)) 0) 1 (1 * 2 ^ (Int.toNat (d.Order.length : Int))))) fun ⟨x, states⟩ next1 =>
      condW (decide (x < (d.Nodes.length : Int)))
        (((0 : Int) ≤ x ∧ x < (d.Nodes.length : Int)) ∧
        rng (2 + x) ∧
        ((0 : Int) ≤ (at' d.Nodes x).Lo ∧ (at' d.Nodes x).Lo < (states.length : Int)) ∧
        ((0 : Int) ≤ (at' d.Nodes x).Hi ∧ (at' d.Nodes x).Hi < (states.length : Int)) ∧
        rng ((at' states ((at' d.Nodes x).Lo)) + (at' states ((at' d.Nodes x).Hi))) ∧
        rng (Int.tdiv ((at' states ((at' d.Nodes x).Lo)) + (at' states ((at' d.Nodes x).Hi))) 2) ∧
        ((0 : Int) ≤ (2 + x) ∧ (2 + x) < (states.length : Int)) ∧
        rng (x + 1) ∧
        next1 ((x + 1), (set' states (2 + x) (Int.tdiv ((at' states ((at' d.Nodes x).Lo)) + (at' states ((at' d.Nodes x).Hi))) 2))))
        (((0 : Int) ≤ d.Root ∧ d.Root < (states.length : Int)) ∧
        Q (at' states d.Root) none))
def algebra_open_W (list : List GDiagram) (Q : Option ((List Int) × (List Int) × (List GDNode) × (GMap Int) × (GMap Int)) → List Int → Option Int → Prop) : Prop :=
  loopW (σ := Int) 0 fun x next1 =>
    condW (decide (x < (list.length : Int)))
      (((0 : Int) ≤ x ∧ x < (list.length : Int)) ∧
      diagram_Check_W (at' list x) fun err =>
      condW (Option.isSome err)
        (Q none [] err)
        (rng (x + 1) ∧
        next1 (x + 1)))
      (((0 : Int) ≤ 1 ∧ 1 ≤ (list.length : Int) ∧ (list.length : Int) ≤ (list.length : Int)) ∧
      loopW (σ := Int) 0 fun x1 next2 =>
        condW (decide (x1 < ((sub' list 1 (list.length : Int)).length : Int)))
          (((0 : Int) ≤ x1 ∧ x1 < ((sub' list 1 (list.length : Int)).length : Int)) ∧
          ((0 : Int) ≤ 0 ∧ 0 < (list.length : Int)) ∧
          detW (slices_Equal___int_int_W ((at' (sub' list 1 (list.length : Int)) x1).Order) ((at' list 0).Order)) fun r =>
          condW (!r)
            (Q none [] (some 13))
            (rng (x1 + 1) ∧
            next2 (x1 + 1)))
          (((0 : Int) ≤ 0 ∧ 0 < (list.length : Int)) ∧
          decision_New_W ((at' list 0).Order) fun order place unique memo =>
          loopW (σ := Int × (List Int) × (GMap Int) × (List GDNode)) (0, [], unique, []) fun ⟨x2, refs, x3, x4⟩ next3 =>
            condW (decide (x2 < (list.length : Int)))
              (((0 : Int) ≤ x2 ∧ x2 < (list.length : Int)) ∧
              decision_Table__Import__e2_W (at' list x2) order place x4 x3 memo fun u u1 r1 =>
              ((refs ++ [r1]).length * 8 ≤ 140737488355328) ∧
              rng (x2 + 1) ∧
              next3 ((x2 + 1), (refs ++ [r1]), u1, u))
              (Q (some (order, place, x4, x3, memo)) refs none)))
def algebra_Least_W (d : GDiagram) (Q : Int → Bool → Option Int → Prop) : Prop :=
  algebra_open_W [d] fun o r r1 =>
  optW o
    (condW (Option.isSome r1)
      (Q 0 false r1)
      (((0 : Int) ≤ 0 ∧ 0 < (r.length : Int)) ∧
      condW ((at' r 0) == 0)
        (Q 0 false none)
        (rng ((d.Order.length : Int) - 1) ∧
        loopW (σ := Int × Int × Int) ((at' r 0), 0, ((d.Order.length : Int) - 1)) fun ⟨_, state2, i1⟩ _ =>
          condW (decide (0 ≤ i1))
            (False)
            (Q state2 true none))))
    fun ⟨order, place, nodes, unique, memo⟩ =>
    condW (Option.isSome r1)
      (Q 0 false r1)
      (((0 : Int) ≤ 0 ∧ 0 < (r.length : Int)) ∧
      condW ((at' r 0) == 0)
        (Q 0 false none)
        (rng ((d.Order.length : Int) - 1) ∧
        loopW (σ := Int × Int × Int × (List GDNode) × (GMap Int) × (GMap Int)) ((at' r 0), 0, ((d.Order.length : Int) - 1), nodes, unique, memo) fun ⟨r2, state, i, x, x1, x2⟩ next1 =>
          condW (decide (0 ≤ i))
            (decision_Table__Restrict__e_W r2 i false order place x x1 x2 fun u u1 u2 x3 =>
            condW (x3 != 0)
              (rng (i - 1) ∧
              next1 (x3, state, (i - 1), u, u1, u2))
              (decision_Table__Restrict__e_W r2 i true order place u u1 u2 fun u3 u4 u5 r3 =>
              (((0 : Int) ≤ i ∧ i ≤ 64) ∧ rng (1 * 2 ^ (Int.toNat i))) ∧
              setW (bits .or .i64 state (1 * 2 ^ (Int.toNat i))) fun state1 =>
              rng (i - 1) ∧
              next1 (r3, state1, (i - 1), u3, u4, u5)))
            (Q state true none)))
def algebra_result__e_W (r : Int) (order : List Int) (place : List Int) (nodes : List GDNode) (unique : GMap Int) (memo : GMap Int) (Q : GDiagram → Option Int → Prop) : Prop :=
  decision_Table__Small__e_W r 4096 order place nodes unique memo fun r1 =>
  condW (!r1)
    (Q (⟨[], [], 0⟩ : GDiagram) (some 4))
    (decision_Table__Export__e_W r order place nodes unique memo fun r2 =>
    Q r2 none)
def algebra_both__decision_Table__And_W (a : GDiagram) (b : GDiagram) (Q : GDiagram → Option Int → Prop) : Prop :=
  algebra_open_W [a, b] fun o r r1 =>
  optW o
    (condW (Option.isSome r1)
      (Q (⟨[], [], 0⟩ : GDiagram) r1)
      (False))
    fun ⟨order, place, nodes, unique, memo⟩ =>
    condW (Option.isSome r1)
      (Q (⟨[], [], 0⟩ : GDiagram) r1)
      (((0 : Int) ≤ 0 ∧ 0 < (r.length : Int)) ∧
      ((0 : Int) ≤ 1 ∧ 1 < (r.length : Int)) ∧
      ∃ u u1 u2 r2, (decision_Table__And__e_W (at' r 0) (at' r 1) order place nodes unique memo fun y1 y2 y3 y4 => y1 = u ∧ y2 = u1 ∧ y3 = u2 ∧ y4 = r2) ∧
      ∃ r3 r4, (algebra_result__e_W r2 order place u u1 u2 fun y5 y6 => y5 = r3 ∧ y6 = r4) ∧
      Q r3 r4)
def algebra_And_W (a : GDiagram) (b : GDiagram) (Q : GDiagram → Option Int → Prop) : Prop :=
  algebra_both__decision_Table__And_W a b fun r r1 =>
  Q r r1
def algebra_both__decision_Table__Or_W (a : GDiagram) (b : GDiagram) (Q : GDiagram → Option Int → Prop) : Prop :=
  algebra_open_W [a, b] fun o r r1 =>
  optW o
    (condW (Option.isSome r1)
      (Q (⟨[], [], 0⟩ : GDiagram) r1)
      (False))
    fun ⟨order, place, nodes, unique, memo⟩ =>
    condW (Option.isSome r1)
      (Q (⟨[], [], 0⟩ : GDiagram) r1)
      (((0 : Int) ≤ 0 ∧ 0 < (r.length : Int)) ∧
      ((0 : Int) ≤ 1 ∧ 1 < (r.length : Int)) ∧
      ∃ u u1 u2 r2, (decision_Table__Or__e_W (at' r 0) (at' r 1) order place nodes unique memo fun y1 y2 y3 y4 => y1 = u ∧ y2 = u1 ∧ y3 = u2 ∧ y4 = r2) ∧
      ∃ r3 r4, (algebra_result__e_W r2 order place u u1 u2 fun y5 y6 => y5 = r3 ∧ y6 = r4) ∧
      Q r3 r4)
def algebra_Or_W (a : GDiagram) (b : GDiagram) (Q : GDiagram → Option Int → Prop) : Prop :=
  algebra_both__decision_Table__Or_W a b fun r r1 =>
  Q r r1
def algebra_Not_W (d : GDiagram) (Q : GDiagram → Option Int → Prop) : Prop :=
  algebra_open_W [d] fun o r r1 =>
  optW o
    (condW (Option.isSome r1)
      (Q (⟨[], [], 0⟩ : GDiagram) r1)
      (((0 : Int) ≤ 0 ∧ 0 < (r.length : Int)) ∧
      False))
    fun ⟨order, place, nodes, unique, memo⟩ =>
    condW (Option.isSome r1)
      (Q (⟨[], [], 0⟩ : GDiagram) r1)
      (((0 : Int) ≤ 0 ∧ 0 < (r.length : Int)) ∧
      decision_Table__Not__e_W (at' r 0) order place nodes unique memo fun u u1 u2 r2 =>
      algebra_result__e_W r2 order place u u1 u2 fun r3 r4 =>
      Q r3 r4)
def algebra_both__decision_Table__Xor_W (a : GDiagram) (b : GDiagram) (Q : GDiagram → Option Int → Prop) : Prop :=
  algebra_open_W [a, b] fun o r r1 =>
  optW o
    (condW (Option.isSome r1)
      (Q (⟨[], [], 0⟩ : GDiagram) r1)
      (False))
    fun ⟨order, place, nodes, unique, memo⟩ =>
    condW (Option.isSome r1)
      (Q (⟨[], [], 0⟩ : GDiagram) r1)
      (((0 : Int) ≤ 0 ∧ 0 < (r.length : Int)) ∧
      ((0 : Int) ≤ 1 ∧ 1 < (r.length : Int)) ∧
      ∃ u u1 u2 r2, (decision_Table__Xor__e_W (at' r 0) (at' r 1) order place nodes unique memo fun y1 y2 y3 y4 => y1 = u ∧ y2 = u1 ∧ y3 = u2 ∧ y4 = r2) ∧
      ∃ r3 r4, (algebra_result__e_W r2 order place u u1 u2 fun y5 y6 => y5 = r3 ∧ y6 = r4) ∧
      Q r3 r4)
def algebra_Xor_W (a : GDiagram) (b : GDiagram) (Q : GDiagram → Option Int → Prop) : Prop :=
  algebra_both__decision_Table__Xor_W a b fun r r1 =>
  Q r r1
def algebra_Implies_W (a : GDiagram) (b : GDiagram) (Q : Bool → Option Int → Prop) : Prop :=
  algebra_open_W [a, b] fun o r r1 =>
  optW o
    (condW (Option.isSome r1)
      (Q false r1)
      (False))
    fun ⟨order, place, nodes, unique, memo⟩ =>
    condW (Option.isSome r1)
      (Q false r1)
      (((0 : Int) ≤ 0 ∧ 0 < (r.length : Int)) ∧
      ((0 : Int) ≤ 1 ∧ 1 < (r.length : Int)) ∧
      ∃ u u1 u2 r2, (∃ fu, decision_Table__Choose__e_W fu (at' r 0) (at' r 1) 1 order place nodes unique memo fun y1 y2 y3 y4 => y1 = u ∧ y2 = u1 ∧ y3 = u2 ∧ y4 = r2) ∧
      Q (r2 == 1) none)
def algebra_Choose_W (c : GDiagram) (a : GDiagram) (b : GDiagram) (Q : GDiagram → Option Int → Prop) : Prop :=
  algebra_open_W [c, a, b] fun o r r1 =>
  optW o
    (condW (Option.isSome r1)
      (Q (⟨[], [], 0⟩ : GDiagram) r1)
      (False))
    fun ⟨order, place, nodes, unique, memo⟩ =>
    condW (Option.isSome r1)
      (Q (⟨[], [], 0⟩ : GDiagram) r1)
      (((0 : Int) ≤ 0 ∧ 0 < (r.length : Int)) ∧
      ((0 : Int) ≤ 1 ∧ 1 < (r.length : Int)) ∧
      ((0 : Int) ≤ 2 ∧ 2 < (r.length : Int)) ∧
      ∃ u u1 u2 r2, (∃ fu, decision_Table__Choose__e_W fu (at' r 0) (at' r 1) (at' r 2) order place nodes unique memo fun y1 y2 y3 y4 => y1 = u ∧ y2 = u1 ∧ y3 = u2 ∧ y4 = r2) ∧
      ∃ r3 r4, (algebra_result__e_W r2 order place u u1 u2 fun y5 y6 => y5 = r3 ∧ y6 = r4) ∧
      Q r3 r4)
def algebra_Compose_W (d : GDiagram) (i : Int) (g1 : GDiagram) (Q : GDiagram → Option Int → Prop) : Prop :=
  algebra_open_W [d, g1] fun o r r1 =>
  optW o
    (condW (Option.isSome r1)
      (Q (⟨[], [], 0⟩ : GDiagram) r1)
      (joinW (α := Bool) (fun next2 =>
        condW (decide (i < 0))
          (next2 true)
          (next2 (decide ((d.Order.length : Int) ≤ i))))
        fun x1 =>
        condW x1
          (Q (⟨[], [], 0⟩ : GDiagram) (some 10))
          (False)))
    fun ⟨order, place, nodes, unique, memo⟩ =>
    condW (Option.isSome r1)
      (Q (⟨[], [], 0⟩ : GDiagram) r1)
      (joinW (α := Bool) (fun next1 =>
        condW (decide (i < 0))
          (next1 true)
          (next1 (decide ((d.Order.length : Int) ≤ i))))
        fun x =>
        condW x
          (Q (⟨[], [], 0⟩ : GDiagram) (some 10))
          (((0 : Int) ≤ 0 ∧ 0 < (r.length : Int)) ∧
          ((0 : Int) ≤ 1 ∧ 1 < (r.length : Int)) ∧
          ∃ u u1 u2 r2, (decision_Table__Compose__e_W (at' r 0) i (at' r 1) order place nodes unique memo fun y1 y2 y3 y4 => y1 = u ∧ y2 = u1 ∧ y3 = u2 ∧ y4 = r2) ∧
          ∃ r3 r4, (algebra_result__e_W r2 order place u u1 u2 fun y5 y6 => y5 = r3 ∧ y6 = r4) ∧
          Q r3 r4))
def algebra_Restrict_W (d : GDiagram) (i : Int) (v : Bool) (Q : GDiagram → Option Int → Prop) : Prop :=
  algebra_open_W [d] fun o r r1 =>
  optW o
    (condW (Option.isSome r1)
      (Q (⟨[], [], 0⟩ : GDiagram) r1)
      (joinW (α := Bool) (fun next2 =>
        condW (decide (i < 0))
          (next2 true)
          (next2 (decide ((d.Order.length : Int) ≤ i))))
        fun x1 =>
        condW x1
          (Q (⟨[], [], 0⟩ : GDiagram) (some 10))
          (((0 : Int) ≤ 0 ∧ 0 < (r.length : Int)) ∧
          False)))
    fun ⟨order, place, nodes, unique, memo⟩ =>
    condW (Option.isSome r1)
      (Q (⟨[], [], 0⟩ : GDiagram) r1)
      (joinW (α := Bool) (fun next1 =>
        condW (decide (i < 0))
          (next1 true)
          (next1 (decide ((d.Order.length : Int) ≤ i))))
        fun x =>
        condW x
          (Q (⟨[], [], 0⟩ : GDiagram) (some 10))
          (((0 : Int) ≤ 0 ∧ 0 < (r.length : Int)) ∧
          decision_Table__Restrict__e_W (at' r 0) i v order place nodes unique memo fun u u1 u2 r2 =>
          algebra_result__e_W r2 order place u u1 u2 fun r3 r4 =>
          Q r3 r4))
def algebra_quantify__decision_Table__Or_W (d : GDiagram) (mask : Int) (Q : GDiagram → Option Int → Prop) : Prop :=
  algebra_open_W [d] fun o r r1 =>
  optW o
    (condW (Option.isSome r1)
      (Q (⟨[], [], 0⟩ : GDiagram) r1)
      (joinW (α := Bool) (fun next4 =>
        condW (decide (mask < 0))
          (next4 true)
          ((((0 : Int) ≤ (d.Order.length : Int) ∧ (d.Order.length : Int) ≤ 64) ∧ rng (1 * 2 ^ (Int.toNat (d.Order.length : Int)))) ∧
          next4 (decide ((1 * 2 ^ (Int.toNat (d.Order.length : Int))) ≤ mask))))
        fun x5 =>
        condW x5
          (Q (⟨[], [], 0⟩ : GDiagram) (some 3))
          (((0 : Int) ≤ 0 ∧ 0 < (r.length : Int)) ∧
          loopW (σ := Int × Int) ((at' r 0), 0) fun ⟨r8, x6⟩ next3 =>
            condW (decide (x6 < (d.Order.length : Int)))
              (((0 : Int) ≤ x6 ∧ x6 ≤ 64) ∧
              condW ((bits .and .i64 (mask / 2 ^ (Int.toNat x6)) 1) == 1)
                (False)
                (rng (x6 + 1) ∧
                next3 (r8, (x6 + 1))))
              (False))))
    fun ⟨order, place, nodes, unique, memo⟩ =>
    condW (Option.isSome r1)
      (Q (⟨[], [], 0⟩ : GDiagram) r1)
      (joinW (α := Bool) (fun next2 =>
        condW (decide (mask < 0))
          (next2 true)
          ((((0 : Int) ≤ (d.Order.length : Int) ∧ (d.Order.length : Int) ≤ 64) ∧ rng (1 * 2 ^ (Int.toNat (d.Order.length : Int)))) ∧
          next2 (decide ((1 * 2 ^ (Int.toNat (d.Order.length : Int))) ≤ mask))))
        fun x =>
        condW x
          (Q (⟨[], [], 0⟩ : GDiagram) (some 3))
          (((0 : Int) ≤ 0 ∧ 0 < (r.length : Int)) ∧
          loopW (σ := Int × Int × (List GDNode) × (GMap Int) × (GMap Int)) ((at' r 0), 0, nodes, unique, memo) fun ⟨r2, x1, x2, x3, x4⟩ next1 =>
            condW (decide (x1 < (d.Order.length : Int)))
              (((0 : Int) ≤ x1 ∧ x1 ≤ 64) ∧
              condW ((bits .and .i64 (mask / 2 ^ (Int.toNat x1)) 1) == 1)
                (decision_Table__Restrict__e_W r2 x1 false order place x2 x3 x4 fun u u1 u2 r3 =>
                decision_Table__Restrict__e_W r2 x1 true order place u u1 u2 fun u3 u4 u5 r4 =>
                decision_Table__Or__e_W r3 r4 order place u3 u4 u5 fun u6 u7 u8 r5 =>
                rng (x1 + 1) ∧
                next1 (r5, (x1 + 1), u6, u7, u8))
                (rng (x1 + 1) ∧
                next1 (r2, (x1 + 1), x2, x3, x4)))
              (algebra_result__e_W r2 order place x2 x3 x4 fun r6 r7 =>
              Q r6 r7)))
def algebra_Exists_W (d : GDiagram) (mask : Int) (Q : GDiagram → Option Int → Prop) : Prop :=
  algebra_quantify__decision_Table__Or_W d mask fun r r1 =>
  Q r r1
def algebra_quantify__decision_Table__And_W (d : GDiagram) (mask : Int) (Q : GDiagram → Option Int → Prop) : Prop :=
  algebra_open_W [d] fun o r r1 =>
  optW o
    (condW (Option.isSome r1)
      (Q (⟨[], [], 0⟩ : GDiagram) r1)
      (joinW (α := Bool) (fun next4 =>
        condW (decide (mask < 0))
          (next4 true)
          ((((0 : Int) ≤ (d.Order.length : Int) ∧ (d.Order.length : Int) ≤ 64) ∧ rng (1 * 2 ^ (Int.toNat (d.Order.length : Int)))) ∧
          next4 (decide ((1 * 2 ^ (Int.toNat (d.Order.length : Int))) ≤ mask))))
        fun x5 =>
        condW x5
          (Q (⟨[], [], 0⟩ : GDiagram) (some 3))
          (((0 : Int) ≤ 0 ∧ 0 < (r.length : Int)) ∧
          loopW (σ := Int × Int) ((at' r 0), 0) fun ⟨r8, x6⟩ next3 =>
            condW (decide (x6 < (d.Order.length : Int)))
              (((0 : Int) ≤ x6 ∧ x6 ≤ 64) ∧
              condW ((bits .and .i64 (mask / 2 ^ (Int.toNat x6)) 1) == 1)
                (False)
                (rng (x6 + 1) ∧
                next3 (r8, (x6 + 1))))
              (False))))
    fun ⟨order, place, nodes, unique, memo⟩ =>
    condW (Option.isSome r1)
      (Q (⟨[], [], 0⟩ : GDiagram) r1)
      (joinW (α := Bool) (fun next2 =>
        condW (decide (mask < 0))
          (next2 true)
          ((((0 : Int) ≤ (d.Order.length : Int) ∧ (d.Order.length : Int) ≤ 64) ∧ rng (1 * 2 ^ (Int.toNat (d.Order.length : Int)))) ∧
          next2 (decide ((1 * 2 ^ (Int.toNat (d.Order.length : Int))) ≤ mask))))
        fun x =>
        condW x
          (Q (⟨[], [], 0⟩ : GDiagram) (some 3))
          (((0 : Int) ≤ 0 ∧ 0 < (r.length : Int)) ∧
          loopW (σ := Int × Int × (List GDNode) × (GMap Int) × (GMap Int)) ((at' r 0), 0, nodes, unique, memo) fun ⟨r2, x1, x2, x3, x4⟩ next1 =>
            condW (decide (x1 < (d.Order.length : Int)))
              (((0 : Int) ≤ x1 ∧ x1 ≤ 64) ∧
              condW ((bits .and .i64 (mask / 2 ^ (Int.toNat x1)) 1) == 1)
                (decision_Table__Restrict__e_W r2 x1 false order place x2 x3 x4 fun u u1 u2 r3 =>
                decision_Table__Restrict__e_W r2 x1 true order place u u1 u2 fun u3 u4 u5 r4 =>
                decision_Table__And__e_W r3 r4 order place u3 u4 u5 fun u6 u7 u8 r5 =>
                rng (x1 + 1) ∧
                next1 (r5, (x1 + 1), u6, u7, u8))
                (rng (x1 + 1) ∧
                next1 (r2, (x1 + 1), x2, x3, x4)))
              (algebra_result__e_W r2 order place x2 x3 x4 fun r6 r7 =>
              Q r6 r7)))
def algebra_Forall_W (d : GDiagram) (mask : Int) (Q : GDiagram → Option Int → Prop) : Prop :=
  algebra_quantify__decision_Table__And_W d mask fun r r1 =>
  Q r r1
end Go.Gg
/- Formulas of functions. Conditions: none. -/
namespace Go.Gg
def ref16_Check_W (l : List GDiagram) (Q : Int → Prop) : Prop :=
  loopW (σ := Int) 0 fun i next1 =>
    condW (decide (i < (l.length : Int)))
      (((0 : Int) ≤ i ∧ i < (l.length : Int)) ∧
      ref15_Check_W (at' l i) fun e =>
      condW (e != 0)
        (Q e)
        (rng (i + 1) ∧
        next1 (i + 1)))
      (loopW (σ := Int) 1 fun i1 next2 =>
        condW (decide (i1 < (l.length : Int)))
          (((0 : Int) ≤ i1 ∧ i1 < (l.length : Int)) ∧
          ((0 : Int) ≤ 0 ∧ 0 < (l.length : Int)) ∧
          detW (base_Ints_W ((at' l i1).Order) ((at' l 0).Order)) fun r =>
          condW (!r)
            (Q 13)
            (rng (i1 + 1) ∧
            next2 (i1 + 1)))
          (Q 0))
def ref16_Choose_W (c : GDiagram) (a : GDiagram) (b : GDiagram) (Q : GDiagram → Prop) : Prop :=
  detW (ref15_Table_W c) fun t1 =>
  detW (ref15_Table_W a) fun x =>
  detW (ref15_Table_W b) fun y1 =>
  loopW (σ := Int × (List Bool)) (0, y1) fun ⟨s, y2⟩ next1 =>
    condW (decide (s < (t1.length : Int)))
      (((0 : Int) ≤ s ∧ s < (t1.length : Int)) ∧
      condW (at' t1 s)
        (((0 : Int) ≤ s ∧ s < (x.length : Int)) ∧
        ((0 : Int) ≤ s ∧ s < (y2.length : Int)) ∧
        rng (s + 1) ∧
        next1 ((s + 1), (set' y2 s (at' x s))))
        (rng (s + 1) ∧
        next1 ((s + 1), y2)))
      (ref15_Of_W y2 a.Order fun r =>
      Q r)
def ref16_Compose_W (d : GDiagram) (i : Int) (g1 : GDiagram) (Q : GDiagram → Prop) : Prop :=
  detW (ref15_Table_W d) fun t1 =>
  detW (ref15_Table_W g1) fun x =>
  loopW (σ := Int × (List Bool)) (0, []) fun ⟨s, out⟩ next1 =>
    condW (decide (s < (t1.length : Int)))
      (((0 : Int) ≤ s ∧ s < (x.length : Int)) ∧
      condW (at' x s)
        ((((0 : Int) ≤ i ∧ i ≤ 64) ∧ rng (1 * 2 ^ (Int.toNat i))) ∧
        ((0 : Int) ≤ (bits .or .i64 s (1 * 2 ^ (Int.toNat i))) ∧ (bits .or .i64 s (1 * 2 ^ (Int.toNat i))) < (t1.length : Int)) ∧
        ((out ++ [(at' t1 (bits .or .i64 s (1 * 2 ^ (Int.toNat i))))]).length * 1 ≤ 140737488355328) ∧
        rng (s + 1) ∧
        next1 ((s + 1), (out ++ [(at' t1 (bits .or .i64 s (1 * 2 ^ (Int.toNat i))))])))
        ((((0 : Int) ≤ i ∧ i ≤ 64) ∧ rng (1 * 2 ^ (Int.toNat i))) ∧
        ((0 : Int) ≤ (bits .andNot .i64 s (1 * 2 ^ (Int.toNat i))) ∧ (bits .andNot .i64 s (1 * 2 ^ (Int.toNat i))) < (t1.length : Int)) ∧
        ((out ++ [(at' t1 (bits .andNot .i64 s (1 * 2 ^ (Int.toNat i))))]).length * 1 ≤ 140737488355328) ∧
        rng (s + 1) ∧
        next1 ((s + 1), (out ++ [(at' t1 (bits .andNot .i64 s (1 * 2 ^ (Int.toNat i))))]))))
      (ref15_Of_W out d.Order fun r =>
      Q r)
def ref16_Restrict_W (d : GDiagram) (i : Int) (v : Bool) (Q : GDiagram → Prop) : Prop :=
  detW (ref15_Constant_W v d.Order) fun r =>
  detW (ref16_Compose_W d i r) fun r1 =>
  Q r1
def ref16_Quantify_W (d : GDiagram) (mask : Int) (all : Bool) (Q : GDiagram → Prop) : Prop :=
  ref15_Table_W d fun t1 =>
  loopW (σ := Int × (List Bool)) (0, []) fun ⟨s, out⟩ next1 =>
    condW (decide (s < (t1.length : Int)))
      (loopW (σ := Bool × Int) (all, 0) fun ⟨v, u⟩ next2 =>
        condW (decide (u < (t1.length : Int)))
          (joinW (α := Bool) (fun next3 =>
            condW ((bits .andNot .i64 (bits .xor .i64 s u) mask) == 0)
              (((0 : Int) ≤ u ∧ u < (t1.length : Int)) ∧
              next3 ((at' t1 u) != all))
              (next3 false))
            fun x =>
            condW x
              (rng (u + 1) ∧
              next2 ((!all), (u + 1)))
              (rng (u + 1) ∧
              next2 (v, (u + 1))))
          (((out ++ [v]).length * 1 ≤ 140737488355328) ∧
          rng (s + 1) ∧
          next1 ((s + 1), (out ++ [v]))))
      (ref15_Of_W out d.Order fun r =>
      Q r)
end Go.Gg
/- Formulas of functions. Conditions: none. -/
namespace Go.Gg
def law16_event_W (i : Int) (Q : GDiagram → Prop) : Prop :=
  Q (⟨[0, 1], [(⟨i, 0, 1⟩ : GDNode)], 2⟩ : GDiagram)
def law16_awake_W (Q : Bool → Prop) : Prop :=
  law16_event_W 0 fun r =>
  law16_event_W 1 fun r1 =>
  algebra_Or_W r r1 fun r2 r3 =>
  algebra_Count_W r2 fun r4 r5 =>
  law16_event_W 0 fun r6 =>
  law16_event_W 1 fun r7 =>
  algebra_And_W r6 r7 fun r8 r9 =>
  algebra_Least_W r8 fun r10 r11 r12 =>
  condW (Option.isNone r3)
    (condW (Option.isNone r5)
      (condW (Option.isNone r9)
        (condW (Option.isNone r12)
          (condW (r4 == 3)
            (condW r11
              (condW (r10 == 3)
                (Q ((r2.Nodes.length : Int) == 2))
                (Q false))
              (Q false))
            (Q false))
          (Q false))
        (Q false))
      (Q false))
    (Q false)
def law16_large_W (d : GDiagram) (Q : Bool → Prop) : Prop :=
  condW (decide (300 < (d.Nodes.length : Int)))
    (condW (decide ((d.Nodes.length : Int) ≤ 4096))
      (Q true)
      (condW (decide (8 < (d.Order.length : Int)))
        (ref15_Check_W d fun r =>
        condW (r == 0)
          (Q true)
          (Q (decide (100 < (d.Order.length : Int)))))
        (Q (decide (100 < (d.Order.length : Int))))))
    (condW (decide (8 < (d.Order.length : Int)))
      (ref15_Check_W d fun r1 =>
      condW (r1 == 0)
        (Q true)
        (Q (decide (100 < (d.Order.length : Int)))))
      (Q (decide (100 < (d.Order.length : Int)))))
def law16_none_W (d : GDiagram) (e : Option Int) (code : Int) (Q : Bool → Prop) : Prop :=
  base_Diagram_W d (⟨[], [], 0⟩ : GDiagram) fun r =>
  condW r
    (base_Num_W e fun r1 =>
    Q (r1 == code))
    (Q false)
def law16_valid_W (l : List GDiagram) (Q : Bool → Prop) : Prop :=
  loopW (σ := Int) 0 fun i next1 =>
    condW (decide (i < (l.length : Int)))
      (((0 : Int) ≤ i ∧ i < (l.length : Int)) ∧
      law16_large_W (at' l i) fun r =>
      condW r
        (Q false)
        (rng (i + 1) ∧
        next1 (i + 1)))
      (ref16_Check_W l fun r1 =>
      Q (r1 == 0))
end Go.Gg
/- Formulas of functions. Conditions: none. -/
namespace Go.Gg
end Go.Gg
/- Formulas of functions. Conditions: none. -/
namespace Go.Gg
end Go.Gg
/- Formulas of functions. Conditions: none. -/
namespace Go.Gg
def law16_AlgebraChooses_W (c : GDiagram) (a : GDiagram) (x : GOther) (Q : Bool → Prop) : Prop :=
  joinW (α := Bool) (fun next4 =>
    law16_awake_W fun r12 =>
    condW (!r12)
      (next4 true)
      (law16_large_W c fun r13 =>
      condW r13
        (next4 true)
        (law16_large_W a fun r14 =>
        condW r14
          (next4 true)
          (law16_large_W x.D fun r15 =>
          next4 r15))))
    fun x1 =>
    condW x1
      (law16_awake_W fun r =>
      Q r)
      (algebra_Choose_W c a x.D fun r1 r2 =>
      algebra_Compose_W c x.I a fun r3 r4 =>
      detW (ref16_Check_W [c, a, x.D]) fun one =>
      detW (ref16_Check_W [c, a]) fun two =>
      joinW (α := Int) (fun next3 =>
        condW (two == 0)
          (condW (decide (x.I < 0))
            (next3 10)
            (condW (decide ((c.Order.length : Int) ≤ x.I))
              (next3 10)
              (next3 two)))
          (next3 two))
        fun two1 =>
        joinW (α := Unit) (fun next2 =>
          condW (one != 0)
            (law16_none_W r1 r2 one fun r9 =>
            condW (!r9)
              (Q false)
              (condW (two1 != 0)
                (law16_none_W r3 r4 two1 fun r10 =>
                condW (!r10)
                  (Q false)
                  (next2 ()))
                (next2 ())))
            (condW (two1 != 0)
              (law16_none_W r3 r4 two1 fun r11 =>
              condW (!r11)
                (Q false)
                (next2 ()))
              (next2 ())))
          fun _ =>
          joinW (α := Unit) (fun next1 =>
            condW (one == 0)
              (condW (Option.isSome r2)
                (Q false)
                (detW (ref16_Choose_W c a x.D) fun r7 =>
                detW (base_Diagram_W r1 r7) fun r8 =>
                condW (!r8)
                  (Q false)
                  (next1 ())))
              (next1 ()))
            fun _ =>
            condW (two1 != 0)
              (Q true)
              (condW (Option.isNone r4)
                (detW (ref16_Compose_W c x.I a) fun r5 =>
                detW (base_Diagram_W r3 r5) fun r6 =>
                Q r6)
                (Q false)))
end Go.Gg
/- Formulas of functions. Conditions: none. -/
namespace Go.Gg
def law16_AlgebraRestricts_W (d : GDiagram) (i : Int) (mask : Int) (Q : Bool → Prop) : Prop :=
  joinW (α := Bool) (fun next5 =>
    law16_awake_W fun r23 =>
    condW (!r23)
      (next5 true)
      (law16_large_W d fun r24 =>
      next5 r24))
    fun x =>
    condW x
      (law16_awake_W fun r =>
      Q r)
      (algebra_Restrict_W d i true fun r1 r2 =>
      algebra_Restrict_W d i false fun r3 r4 =>
      algebra_Exists_W d mask fun r5 r6 =>
      algebra_Forall_W d mask fun r7 r8 =>
      ref15_Check_W d fun one =>
      joinW (α := Int) (fun next4 =>
        condW (one == 0)
          (condW (decide (i < 0))
            (next4 10)
            (condW (decide ((d.Order.length : Int) ≤ i))
              (next4 10)
              (next4 one)))
          (next4 one))
        fun one1 =>
        joinW (α := Int) (fun next3 =>
          condW (one == 0)
            (condW (decide (mask < 0))
              (next3 3)
              ((((0 : Int) ≤ (d.Order.length : Int) ∧ (d.Order.length : Int) ≤ 64) ∧ rng (1 * 2 ^ (Int.toNat (d.Order.length : Int)))) ∧
              condW (decide ((1 * 2 ^ (Int.toNat (d.Order.length : Int))) ≤ mask))
                (next3 3)
                (next3 one)))
            (next3 one))
          fun two =>
          joinW (α := Unit) (fun next2 =>
            condW (one1 != 0)
              (law16_none_W r1 r2 one1 fun r17 =>
              condW (!r17)
                (Q false)
                (law16_none_W r3 r4 one1 fun r18 =>
                condW (!r18)
                  (Q false)
                  (condW (two != 0)
                    (law16_none_W r5 r6 two fun r19 =>
                    condW (!r19)
                      (Q false)
                      (law16_none_W r7 r8 two fun r20 =>
                      condW (!r20)
                        (Q false)
                        (next2 ())))
                    (next2 ()))))
              (condW (two != 0)
                (law16_none_W r5 r6 two fun r21 =>
                condW (!r21)
                  (Q false)
                  (law16_none_W r7 r8 two fun r22 =>
                  condW (!r22)
                    (Q false)
                    (next2 ())))
                (next2 ())))
            fun _ =>
            joinW (α := Unit) (fun next1 =>
              condW (one1 == 0)
                (condW (Option.isSome r2)
                  (Q false)
                  (condW (Option.isSome r4)
                    (Q false)
                    (detW (ref16_Restrict_W d i true) fun r13 =>
                    detW (base_Diagram_W r1 r13) fun r14 =>
                    condW (!r14)
                      (Q false)
                      (detW (ref16_Restrict_W d i false) fun r15 =>
                      detW (base_Diagram_W r3 r15) fun r16 =>
                      condW (!r16)
                        (Q false)
                        (next1 ())))))
                (next1 ()))
              fun _ =>
              condW (two != 0)
                (Q true)
                (condW (Option.isNone r6)
                  (condW (Option.isNone r8)
                    (detW (ref16_Quantify_W d mask false) fun r9 =>
                    detW (base_Diagram_W r5 r9) fun r10 =>
                    condW r10
                      (detW (ref16_Quantify_W d mask true) fun r11 =>
                      detW (base_Diagram_W r7 r11) fun r12 =>
                      Q r12)
                      (Q false))
                    (Q false))
                  (Q false)))
end Go.Gg
/- Formulas of functions. Conditions: none. -/
namespace Go.Gg
def law16_AlgebraLaws_W (a : GDiagram) (b : GDiagram) (c : GDiagram) (Q : Bool → Prop) : Prop :=
  joinW (α := Bool) (fun next1 =>
    law16_awake_W fun r29 =>
    condW (!r29)
      (next1 true)
      (law16_valid_W [a, b, c] fun r30 =>
      next1 (!r30)))
    fun x =>
    condW x
      (law16_awake_W fun r =>
      Q r)
      (algebra_Not_W a fun r1 r2 =>
      algebra_Not_W r1 fun r3 r4 =>
      algebra_Not_W b fun r5 r6 =>
      algebra_And_W a b fun r7 r8 =>
      algebra_Not_W r7 fun r9 r10 =>
      algebra_Or_W r1 r5 fun r11 r12 =>
      algebra_Or_W b c fun r13 r14 =>
      algebra_And_W a r13 fun r15 r16 =>
      algebra_And_W a c fun r17 r18 =>
      algebra_Or_W r7 r17 fun r19 r20 =>
      algebra_Or_W a r7 fun r21 r22 =>
      algebra_And_W a r1 fun r23 r24 =>
      condW (Option.isSome r2)
        (Q false)
        (condW (Option.isSome r4)
          (Q false)
          (condW (Option.isSome r6)
            (Q false)
            (condW (Option.isSome r8)
              (Q false)
              (condW (Option.isSome r10)
                (Q false)
                (condW (Option.isSome r12)
                  (Q false)
                  (condW (Option.isSome r14)
                    (Q false)
                    (condW (Option.isSome r16)
                      (Q false)
                      (condW (Option.isSome r18)
                        (Q false)
                        (condW (Option.isSome r20)
                          (Q false)
                          (condW (Option.isSome r22)
                            (Q false)
                            (condW (Option.isSome r24)
                              (Q false)
                              (base_Diagram_W r3 a fun r25 =>
                              condW r25
                                (base_Diagram_W r9 r11 fun r26 =>
                                condW r26
                                  (base_Diagram_W r15 r19 fun r27 =>
                                  condW r27
                                    (base_Diagram_W r21 a fun r28 =>
                                    condW r28
                                      (condW (r23.Root == 0)
                                        (Q ((r23.Nodes.length : Int) == 0))
                                        (Q false))
                                      (Q false))
                                    (Q false))
                                  (Q false))
                                (Q false))))))))))))))
end Go.Gg
/- Formulas of functions. Conditions: none. -/
namespace Go.Gg
def law16_AlgebraCounts_W (a : GDiagram) (b : GDiagram) (Q : Bool → Prop) : Prop :=
  joinW (α := Bool) (fun next1 =>
    law16_awake_W fun r20 =>
    condW (!r20)
      (next1 true)
      (law16_valid_W [a, b] fun r21 =>
      next1 (!r21)))
    fun x =>
    condW x
      (law16_awake_W fun r =>
      Q r)
      (algebra_Or_W a b fun r1 r2 =>
      algebra_And_W a b fun r3 r4 =>
      algebra_Not_W a fun r5 r6 =>
      algebra_Count_W a fun r7 r8 =>
      algebra_Count_W b fun r9 r10 =>
      algebra_Count_W r1 fun r11 r12 =>
      algebra_Count_W r3 fun r13 r14 =>
      algebra_Count_W r5 fun r15 r16 =>
      algebra_Implies_W a b fun r17 r18 =>
      condW (Option.isSome r2)
        (Q false)
        (condW (Option.isSome r4)
          (Q false)
          (condW (Option.isSome r6)
            (Q false)
            (condW (Option.isSome r8)
              (Q false)
              (condW (Option.isSome r10)
                (Q false)
                (condW (Option.isSome r12)
                  (Q false)
                  (condW (Option.isSome r14)
                    (Q false)
                    (condW (Option.isSome r16)
                      (Q false)
                      (condW (Option.isSome r18)
                        (Q false)
                        (rng (r11 + r13) ∧
                        rng (r7 + r9) ∧
                        condW ((r11 + r13) == (r7 + r9))
                          ((((0 : Int) ≤ (a.Order.length : Int) ∧ (a.Order.length : Int) ≤ 64) ∧ rng (1 * 2 ^ (Int.toNat (a.Order.length : Int)))) ∧
                          rng ((1 * 2 ^ (Int.toNat (a.Order.length : Int))) - r7) ∧
                          condW (r15 == ((1 * 2 ^ (Int.toNat (a.Order.length : Int))) - r7))
                            (base_Diagram_W r3 a fun r19 =>
                            condW (r17 == r19)
                              (Q (r17 == (r13 == r7)))
                              (Q false))
                            (Q false))
                          (Q false)))))))))))
end Go.Gg
/- Formulas of functions. Conditions: none. -/
namespace Go.Gg
def law16_AlgebraValues_W (a : GDiagram) (b : GDiagram) (state : Int) (Q : Bool → Prop) : Prop :=
  joinW (α := Bool) (fun next1 =>
    law16_awake_W fun r21 =>
    condW (!r21)
      (next1 true)
      (law16_valid_W [a, b] fun r22 =>
      condW (!r22)
        (next1 true)
        (condW (decide (state < 0))
          (next1 true)
          ((((0 : Int) ≤ (a.Order.length : Int) ∧ (a.Order.length : Int) ≤ 64) ∧ rng (1 * 2 ^ (Int.toNat (a.Order.length : Int)))) ∧
          next1 (decide ((1 * 2 ^ (Int.toNat (a.Order.length : Int))) ≤ state))))))
    fun x =>
    condW x
      (law16_awake_W fun r =>
      Q r)
      (diagram_Value_W a state fun r1 r2 =>
      diagram_Value_W b state fun r3 r4 =>
      algebra_And_W a b fun r5 r6 =>
      algebra_Or_W a b fun r7 r8 =>
      algebra_Xor_W a b fun r9 r10 =>
      algebra_Not_W a fun r11 r12 =>
      condW (Option.isSome r2)
        (Q false)
        (condW (Option.isSome r4)
          (Q false)
          (condW (Option.isSome r6)
            (Q false)
            (condW (Option.isSome r8)
              (Q false)
              (condW (Option.isSome r10)
                (Q false)
                (condW (Option.isSome r12)
                  (Q false)
                  (diagram_Value_W r5 state fun r13 r14 =>
                  diagram_Value_W r7 state fun r15 r16 =>
                  diagram_Value_W r9 state fun r17 r18 =>
                  diagram_Value_W r11 state fun r19 r20 =>
                  condW (Option.isNone r14)
                    (condW (Option.isNone r16)
                      (condW (Option.isNone r18)
                        (condW (Option.isNone r20)
                          (condW r1
                            (condW (r13 == r3)
                              (condW (r15 == true)
                                (condW (r17 == (r1 != r3))
                                  (Q (r19 == (!r1)))
                                  (Q false))
                                (Q false))
                              (Q false))
                            (condW (r13 == false)
                              (condW (r15 == r3)
                                (condW (r17 == (r1 != r3))
                                  (Q (r19 == (!r1)))
                                  (Q false))
                                (Q false))
                              (Q false)))
                          (Q false))
                        (Q false))
                      (Q false))
                    (Q false))))))))
end Go.Gg
/- Formulas of functions. Conditions: none. -/
namespace Go.Gg
def law16_AlgebraExpands_W (d : GDiagram) (i : Int) (Q : Bool → Prop) : Prop :=
  joinW (α := Bool) (fun next1 =>
    law16_awake_W fun r23 =>
    condW (!r23)
      (next1 true)
      (law16_valid_W [d] fun r24 =>
      condW (!r24)
        (next1 true)
        (condW (decide (i < 0))
          (next1 true)
          (next1 (decide ((d.Order.length : Int) ≤ i))))))
    fun x =>
    condW x
      (law16_awake_W fun r =>
      Q r)
      (diagram_Event_W i d.Order fun r1 r2 =>
      algebra_Restrict_W d i true fun r3 r4 =>
      algebra_Restrict_W d i false fun r5 r6 =>
      algebra_Choose_W r1 r3 r5 fun r7 r8 =>
      (((0 : Int) ≤ i ∧ i ≤ 64) ∧ rng (1 * 2 ^ (Int.toNat i))) ∧
      detW2 (algebra_Exists_W d (1 * 2 ^ (Int.toNat i))) fun r9 r10 =>
      (((0 : Int) ≤ i ∧ i ≤ 64) ∧ rng (1 * 2 ^ (Int.toNat i))) ∧
      detW2 (algebra_Forall_W d (1 * 2 ^ (Int.toNat i))) fun r11 r12 =>
      algebra_Or_W r3 r5 fun r13 r14 =>
      algebra_And_W r3 r5 fun r15 r16 =>
      algebra_Compose_W d i r1 fun r17 r18 =>
      condW (Option.isSome r2)
        (Q false)
        (condW (Option.isSome r4)
          (Q false)
          (condW (Option.isSome r6)
            (Q false)
            (condW (Option.isSome r8)
              (Q false)
              (condW (Option.isSome r10)
                (Q false)
                (condW (Option.isSome r12)
                  (Q false)
                  (condW (Option.isSome r14)
                    (Q false)
                    (condW (Option.isSome r16)
                      (Q false)
                      (condW (Option.isSome r18)
                        (Q false)
                        (base_Diagram_W r7 d fun r19 =>
                        condW r19
                          (base_Diagram_W r9 r13 fun r20 =>
                          condW r20
                            (base_Diagram_W r11 r15 fun r21 =>
                            condW r21
                              (base_Diagram_W r17 d fun r22 =>
                              Q r22)
                              (Q false))
                            (Q false))
                          (Q false)))))))))))
end Go.Gg
