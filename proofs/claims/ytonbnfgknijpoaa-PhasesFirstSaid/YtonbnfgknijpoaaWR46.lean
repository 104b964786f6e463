/- Formulas of functions. Conditions: none. -/
import Derived.Test.YtonbnfgknijpoaaGgU
import Derived.Test.YtonbnfgknijpoaaWB
import Derived.Test.YtonbnfgknijpoaaWF
namespace Go.Gg
def ref46_Events_W (m : GMission) (Q : Int → Prop) : Prop :=
  ((0 : Int) ≤ 0 ∧ 0 < (m.Phases.length : Int)) ∧
  Q ((at' m.Phases 0).Vars)
def ref46_formulas_W (m : GMission) (Q : Int → Prop) : Prop :=
  condW ((m.Phases.length : Int) == 0)
    (Q 11)
    (condW (decide (6 < (m.Phases.length : Int)))
      (Q 4)
      (loopW (σ := Int) 0 fun j next1 =>
        condW (decide (j < (m.Phases.length : Int)))
          (((0 : Int) ≤ j ∧ j < (m.Phases.length : Int)) ∧
          ref08_Check_W (at' m.Phases j) fun e =>
          condW (e != 0)
            (Q e)
            (((0 : Int) ≤ j ∧ j < (m.Phases.length : Int)) ∧
            detW (ref46_Events_W m) fun r =>
            condW ((at' m.Phases j).Vars != r)
              (Q 11)
              (rng (j + 1) ∧
              next1 (j + 1))))
          (Q 0)))
def ref46_Check_W (m : GMission) (Q : Int → Prop) : Prop :=
  ref46_formulas_W m fun e =>
  condW (e != 0)
    (Q e)
    (detW (ref46_Events_W m) fun r =>
    rng (r * (m.Phases.length : Int)) ∧
    condW (decide (24 < (r * (m.Phases.length : Int))))
      (Q 4)
      (detW (ref46_Events_W m) fun r1 =>
      condW ((m.P.length : Int) != r1)
        (Q 11)
        (loopW (σ := Int) 0 fun i next1 =>
          condW (decide (i < (m.P.length : Int)))
            (((0 : Int) ≤ i ∧ i < (m.P.length : Int)) ∧
            condW (((at' m.P i).length : Int) != (m.Phases.length : Int))
              (Q 11)
              (loopW (σ := Int) 0 fun j next2 =>
                ((0 : Int) ≤ i ∧ i < (m.P.length : Int)) ∧
                condW (decide (j < ((at' m.P i).length : Int)))
                  (((0 : Int) ≤ i ∧ i < (m.P.length : Int)) ∧
                  ((0 : Int) ≤ j ∧ j < ((at' m.P i).length : Int)) ∧
                  ref02_Prob_W (at' (at' m.P i) j) fun r2 =>
                  condW (!r2)
                    (Q 3)
                    (rng (j + 1) ∧
                    next2 (j + 1)))
                  (rng (i + 1) ∧
                  next1 (i + 1))))
            (Q 0))))
def ref46_CheckHistory_W (m : GMission) (h1 : List Int) (Q : Int → Prop) : Prop :=
  ref46_Check_W m fun e =>
  condW (e != 0)
    (Q e)
    (ref46_Events_W m fun r =>
    condW ((h1.length : Int) != r)
      (Q 11)
      (loopW (σ := Int) 0 fun i next1 =>
        condW (decide (i < (h1.length : Int)))
          (((0 : Int) ≤ i ∧ i < (h1.length : Int)) ∧
          condW (decide ((at' h1 i) < 0))
            (Q 3)
            (((0 : Int) ≤ i ∧ i < (h1.length : Int)) ∧
            condW (decide ((m.Phases.length : Int) < (at' h1 i)))
              (Q 3)
              (rng (i + 1) ∧
              next1 (i + 1))))
          (Q 0)))
def ref46_ors_W (events : Int) (phases : Int) (Q : List GNode → Prop) : Prop :=
  loopW (σ := Int × (List GNode)) (0, []) fun ⟨i, out⟩ next1 =>
    condW (decide (i < events))
      (loopW (σ := Int × (List GNode)) (1, out) fun ⟨j, out1⟩ next2 =>
        condW (decide (j < phases))
          (loopW (σ := Int × (List Int)) (0, []) fun ⟨k1, x⟩ next3 =>
            condW (decide (k1 ≤ j))
              (rng (i * phases) ∧
              rng ((i * phases) + k1) ∧
              ((x ++ [((i * phases) + k1)]).length * 8 ≤ 140737488355328) ∧
              rng (k1 + 1) ∧
              next3 ((k1 + 1), (x ++ [((i * phases) + k1)])))
              (((out1 ++ [(⟨3, 0, x⟩ : GNode)]).length * 40 ≤ 140737488355328) ∧
              rng (j + 1) ∧
              next2 ((j + 1), (out1 ++ [(⟨3, 0, x⟩ : GNode)]))))
          (rng (i + 1) ∧
          next1 ((i + 1), out1)))
      (Q out)
def ref46_moved_W (m : GMission) (j : Int) (arg : Int) (first : Int) (Q : Int → Prop) : Prop :=
  detW (ref46_Events_W m) fun n =>
  condW (decide (n ≤ arg))
    (rng (first + arg) ∧
    rng ((first + arg) - n) ∧
    Q ((first + arg) - n))
    (condW (j == 0)
      (rng (arg * (m.Phases.length : Int)) ∧
      Q (arg * (m.Phases.length : Int)))
      (rng (n * (m.Phases.length : Int)) ∧
      rng ((m.Phases.length : Int) - 1) ∧
      rng (arg * ((m.Phases.length : Int) - 1)) ∧
      rng ((n * (m.Phases.length : Int)) + (arg * ((m.Phases.length : Int) - 1))) ∧
      rng (((n * (m.Phases.length : Int)) + (arg * ((m.Phases.length : Int) - 1))) + j) ∧
      rng ((((n * (m.Phases.length : Int)) + (arg * ((m.Phases.length : Int) - 1))) + j) - 1) ∧
      Q ((((n * (m.Phases.length : Int)) + (arg * ((m.Phases.length : Int) - 1))) + j) - 1)))
def ref46_Unfold_W (m : GMission) (Q : GFormula → List GRat → Int → Prop) : Prop :=
  detW (ref46_Events_W m) fun n =>
  rng (n * (m.Phases.length : Int)) ∧
  ref46_ors_W n (m.Phases.length : Int) fun r =>
  loopW (σ := Int × (List GNode) × (List Int)) (0, r, []) fun ⟨j, x, x1⟩ next1 =>
    condW (decide (j < (m.Phases.length : Int)))
      (((0 : Int) ≤ j ∧ j < (m.Phases.length : Int)) ∧
      rng ((n * (m.Phases.length : Int)) + (x.length : Int)) ∧
      loopW (σ := Int × (List GNode)) (0, x) fun ⟨i, x2⟩ next2 =>
        condW (decide (i < (((at' m.Phases j).Nodes).length : Int)))
          (((0 : Int) ≤ i ∧ i < (((at' m.Phases j).Nodes).length : Int)) ∧
          ((0 : Int) ≤ i ∧ i < (((at' m.Phases j).Nodes).length : Int)) ∧
          loopW (σ := Int × (List Int)) (0, []) fun ⟨a, x3⟩ next3 =>
            ((0 : Int) ≤ i ∧ i < (((at' m.Phases j).Nodes).length : Int)) ∧
            condW (decide (a < (((at' ((at' m.Phases j).Nodes) i).Args).length : Int)))
              (((0 : Int) ≤ i ∧ i < (((at' m.Phases j).Nodes).length : Int)) ∧
              ((0 : Int) ≤ a ∧ a < (((at' ((at' m.Phases j).Nodes) i).Args).length : Int)) ∧
              detW (ref46_moved_W m j (at' ((at' ((at' m.Phases j).Nodes) i).Args) a) ((n * (m.Phases.length : Int)) + (x.length : Int))) fun r1 =>
              ((x3 ++ [r1]).length * 8 ≤ 140737488355328) ∧
              rng (a + 1) ∧
              next3 ((a + 1), (x3 ++ [r1])))
              (((x2 ++ [(⟨(at' ((at' m.Phases j).Nodes) i).Kind, (at' ((at' m.Phases j).Nodes) i).K, x3⟩ : GNode)]).length * 40 ≤ 140737488355328) ∧
              rng (i + 1) ∧
              next2 ((i + 1), (x2 ++ [(⟨(at' ((at' m.Phases j).Nodes) i).Kind, (at' ((at' m.Phases j).Nodes) i).K, x3⟩ : GNode)]))))
          (detW (ref46_moved_W m j ((at' m.Phases j).Top) ((n * (m.Phases.length : Int)) + (x.length : Int))) fun r2 =>
          ((x1 ++ [r2]).length * 8 ≤ 140737488355328) ∧
          rng (j + 1) ∧
          next1 ((j + 1), x2, (x1 ++ [r2]))))
      (((0 : Int) ≤ 0 ∧ 0 < (x1.length : Int)) ∧
      joinW (α := Int × (List GNode)) (fun next5 =>
        condW (decide (1 < (m.Phases.length : Int)))
          (rng ((n * (m.Phases.length : Int)) + (x.length : Int)) ∧
          ((x ++ [(⟨3, 0, x1⟩ : GNode)]).length * 40 ≤ 140737488355328) ∧
          next5 (((n * (m.Phases.length : Int)) + (x.length : Int)), (x ++ [(⟨3, 0, x1⟩ : GNode)])))
          (next5 ((at' x1 0), x)))
        fun ⟨x4, x5⟩ =>
        condW (decide (128 < (x5.length : Int)))
          (Q (⟨0, [], 0⟩ : GFormula) [] 4)
          (loopW (σ := Int × (List GRat)) (0, []) fun ⟨i1, p⟩ next4 =>
            condW (decide (i1 < n))
              (((0 : Int) ≤ i1 ∧ i1 < (m.P.length : Int)) ∧
              ((p ++ (at' m.P i1)).length * 56 ≤ 140737488355328) ∧
              rng (i1 + 1) ∧
              next4 ((i1 + 1), (p ++ (at' m.P i1))))
              (Q (⟨(n * (m.Phases.length : Int)), x5, x4⟩ : GFormula) p 0)))
def ref46_Histories_W (events : Int) (phases : Int) (Q : List (List Int) → Prop) : Prop :=
  loopW (σ := (List (List Int)) × Int) ([[]], 0) fun ⟨out, i⟩ next1 =>
    condW (decide (i < events))
      (loopW (σ := Int × (List (List Int))) (0, []) fun ⟨k1, next2⟩ next3 =>
        condW (decide (k1 < (out.length : Int)))
          (loopW (σ := Int × (List (List Int))) (0, next2) fun ⟨j, next4⟩ next5 =>
            condW (decide (j ≤ phases))
              (((0 : Int) ≤ k1 ∧ k1 < (out.length : Int)) ∧
              ((at' out k1).length * 8 ≤ 140737488355328) ∧
              (((at' out k1) ++ [j]).length * 8 ≤ 140737488355328) ∧
              ((next4 ++ [((at' out k1) ++ [j])]).length * 24 ≤ 140737488355328) ∧
              rng (j + 1) ∧
              next5 ((j + 1), (next4 ++ [((at' out k1) ++ [j])])))
              (rng (k1 + 1) ∧
              next3 ((k1 + 1), next4)))
          (rng (i + 1) ∧
          next1 (next2, (i + 1))))
      (Q out)
def ref46_Failed_W (h1 : List Int) (j : Int) (Q : Int → Prop) : Prop :=
  loopW (σ := Int × Int) (0, 0) fun ⟨out, i⟩ next1 =>
    condW (decide (i < (h1.length : Int)))
      (((0 : Int) ≤ i ∧ i < (h1.length : Int)) ∧
      condW (decide ((at' h1 i) ≤ j))
        ((((0 : Int) ≤ i ∧ i ≤ 64) ∧ rng (1 * 2 ^ (Int.toNat i))) ∧
        rng (i + 1) ∧
        next1 ((bits .or .i64 out (1 * 2 ^ (Int.toNat i))), (i + 1)))
        (rng (i + 1) ∧
        next1 (out, (i + 1))))
      (Q out)
def ref46_Fails_W (m : GMission) (h1 : List Int) (Q : Int → Prop) : Prop :=
  loopW (σ := Int) 0 fun j next1 =>
    condW (decide (j < (m.Phases.length : Int)))
      (((0 : Int) ≤ j ∧ j < (m.Phases.length : Int)) ∧
      detW (ref46_Failed_W h1 j) fun r =>
      detW (ref08_Value_W (at' m.Phases j) r) fun r1 =>
      condW r1
        (Q j)
        (rng (j + 1) ∧
        next1 (j + 1)))
      (Q (m.Phases.length : Int))
def ref46_State_W (m : GMission) (h1 : List Int) (Q : Int → Prop) : Prop :=
  loopW (σ := Int × Int) (0, 0) fun ⟨out, i⟩ next1 =>
    condW (decide (i < (h1.length : Int)))
      (((0 : Int) ≤ i ∧ i < (h1.length : Int)) ∧
      condW (decide ((at' h1 i) < (m.Phases.length : Int)))
        (rng (i * (m.Phases.length : Int)) ∧
        ((0 : Int) ≤ i ∧ i < (h1.length : Int)) ∧
        rng ((i * (m.Phases.length : Int)) + (at' h1 i)) ∧
        (((0 : Int) ≤ ((i * (m.Phases.length : Int)) + (at' h1 i)) ∧ ((i * (m.Phases.length : Int)) + (at' h1 i)) ≤ 64) ∧ rng (1 * 2 ^ (Int.toNat ((i * (m.Phases.length : Int)) + (at' h1 i))))) ∧
        rng (i + 1) ∧
        next1 ((bits .or .i64 out (1 * 2 ^ (Int.toNat ((i * (m.Phases.length : Int)) + (at' h1 i))))), (i + 1)))
        (rng (i + 1) ∧
        next1 (out, (i + 1))))
      (Q out)
def ref46_Weight_W (m : GMission) (h1 : List Int) (Q : GRat → Prop) : Prop :=
  ref02_Of_W 1 fun r =>
  loopW (σ := Int × GRat) (0, r) fun ⟨i, x⟩ next1 =>
    condW (decide (i < (h1.length : Int)))
      (loopW (σ := Int × GRat) (0, x) fun ⟨k1, x1⟩ next2 =>
        ((0 : Int) ≤ i ∧ i < (h1.length : Int)) ∧
        condW (decide (k1 < (at' h1 i)))
          (detW (ref02_Of_W 1) fun r1 =>
          ((0 : Int) ≤ i ∧ i < (m.P.length : Int)) ∧
          ((0 : Int) ≤ k1 ∧ k1 < ((at' m.P i).length : Int)) ∧
          detW (ref02_Sub_W r1 (at' (at' m.P i) k1)) fun r2 =>
          detW (ref02_Mul_W x1 r2) fun r3 =>
          rng (k1 + 1) ∧
          next2 ((k1 + 1), r3))
          (((0 : Int) ≤ i ∧ i < (h1.length : Int)) ∧
          condW (decide ((at' h1 i) < (m.Phases.length : Int)))
            (((0 : Int) ≤ i ∧ i < (m.P.length : Int)) ∧
            ((0 : Int) ≤ i ∧ i < (h1.length : Int)) ∧
            ((0 : Int) ≤ (at' h1 i) ∧ (at' h1 i) < ((at' m.P i).length : Int)) ∧
            detW (ref02_Mul_W x1 (at' (at' m.P i) (at' h1 i))) fun r4 =>
            rng (i + 1) ∧
            next1 ((i + 1), r4))
            (rng (i + 1) ∧
            next1 ((i + 1), x1))))
      (Q x)
end Go.Gg
