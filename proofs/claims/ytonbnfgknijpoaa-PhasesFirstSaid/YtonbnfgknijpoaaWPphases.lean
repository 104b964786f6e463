/- Formulas of functions. Conditions: none. -/
import Derived.Test.YtonbnfgknijpoaaGgU
import Derived.Test.YtonbnfgknijpoaaWB
import Derived.Test.YtonbnfgknijpoaaWF
import Derived.Test.YtonbnfgknijpoaaWS
namespace Go.Gg
def phases_Check_1_W (x : GRat) (Q : Bool → Prop) : Prop :=
  rational_Prob_W x fun r =>
  Q (!r)
def slices_IndexFunc___api_Rat_api_Rat__phases_Check_1_W (s : List GRat) (Q : Int → Prop) : Prop :=
  loopW (σ := Int) 0 fun x next1 =>
    condW (decide (x < (s.length : Int)))
      (((0 : Int) ≤ x ∧ x < (s.length : Int)) ∧
      phases_Check_1_W (at' s x) fun r =>
      condW r
        (Q x)
        (rng (x + 1) ∧
        next1 (x + 1)))
      (Q (-1))
def slices_ContainsFunc___api_Rat_api_Rat__phases_Check_1_W (s : List GRat) (Q : Bool → Prop) : Prop :=
  slices_IndexFunc___api_Rat_api_Rat__phases_Check_1_W s fun r =>
  Q (decide (0 ≤ r))
def phases_Check_W (m : GMission) (Q : Option Int → Prop) : Prop :=
  condW ((m.Phases.length : Int) == 0)
    (Q (some 11))
    (condW (decide (6 < (m.Phases.length : Int)))
      (Q (some 4))
      (((0 : Int) ≤ 0 ∧ 0 < (m.Phases.length : Int)) ∧
      loopW (σ := Int) 0 fun x next1 =>
        condW (decide (x < (m.Phases.length : Int)))
          (((0 : Int) ≤ x ∧ x < (m.Phases.length : Int)) ∧
          formula_Check_W (at' m.Phases x) fun err =>
          condW (Option.isSome err)
            (Q err)
            (condW ((at' m.Phases x).Vars != (at' m.Phases 0).Vars)
              (Q (some 11))
              (rng (x + 1) ∧
              next1 (x + 1))))
          (rng ((at' m.Phases 0).Vars * (m.Phases.length : Int)) ∧
          condW (decide (24 < ((at' m.Phases 0).Vars * (m.Phases.length : Int))))
            (Q (some 4))
            (condW ((m.P.length : Int) != (at' m.Phases 0).Vars)
              (Q (some 11))
              (loopW (σ := Int) 0 fun x1 next2 =>
                condW (decide (x1 < (m.P.length : Int)))
                  (((0 : Int) ≤ x1 ∧ x1 < (m.P.length : Int)) ∧
                  condW (((at' m.P x1).length : Int) != (m.Phases.length : Int))
                    (Q (some 11))
                    (slices_ContainsFunc___api_Rat_api_Rat__phases_Check_1_W (at' m.P x1) fun r =>
                    condW r
                      (Q (some 3))
                      (rng (x1 + 1) ∧
                      next2 (x1 + 1))))
                  (Q none))))))
def slices_Clone___int_int__e_W (s : List Int) (Q : List Int → Prop) : Prop :=
  ∀ isnil : Bool, (isnil = true → s.length = 0) →
  condW isnil
    (Q [])
    ((([] ++ s).length * 8 ≤ 140737488355328) ∧
    Q ([] ++ s))
def phases_Unfold_1__e_W (kind : Int) (k2 : Int) (args : List Int) (Vars : Int) (_Top : Int) (Nodes : List GNode) (Q : List GNode → Int → Prop) : Prop :=
  ((Nodes ++ [(⟨kind, k2, args⟩ : GNode)]).length * 40 ≤ 140737488355328) ∧
  rng (Vars + ((Nodes ++ [(⟨kind, k2, args⟩ : GNode)]).length : Int)) ∧
  rng ((Vars + ((Nodes ++ [(⟨kind, k2, args⟩ : GNode)]).length : Int)) - 1) ∧
  Q (Nodes ++ [(⟨kind, k2, args⟩ : GNode)]) ((Vars + ((Nodes ++ [(⟨kind, k2, args⟩ : GNode)]).length : Int)) - 1)
def phases_Unfold_2__e_W (arg : Int) (u : GFormula) (u1 : Int) (u2 : Int) (u3 : List (List Int)) (Q : Int → Prop) : Prop :=
  condW (decide (arg < u.Vars))
    (((0 : Int) ≤ arg ∧ arg < (u3.length : Int)) ∧
    ((0 : Int) ≤ u1 ∧ u1 < ((at' u3 arg).length : Int)) ∧
    Q (at' (at' u3 arg) u1))
    (rng (u2 + arg) ∧
    rng ((u2 + arg) - u.Vars) ∧
    Q ((u2 + arg) - u.Vars))
def phases_Unfold_W (m : GMission) (Q : GFormula → List GRat → Option Int → Prop) : Prop :=
  phases_Check_W m fun err =>
  condW (Option.isSome err)
    (Q (⟨0, [], 0⟩ : GFormula) [] err)
    (rng ((m.P.length : Int) * (m.Phases.length : Int)) ∧
    mkOk 24 (m.P.length : Int) (m.P.length : Int) ∧
    loopW (σ := Int × (List (List Int)) × (List GNode)) (0, (rep' (m.P.length : Int) []), []) fun ⟨x, x1, x2⟩ next1 =>
      condW (decide (x < ((Int.toNat (m.P.length : Int)) : Int)))
        (loopW (σ := Int × (List (List Int)) × (List Int) × (List GNode)) (0, x1, [], x2) fun ⟨x3, x4, so, x5⟩ next2 =>
          condW (decide (x3 < (m.Phases.length : Int)))
            (rng (x * (m.Phases.length : Int)) ∧
            rng ((x * (m.Phases.length : Int)) + x3) ∧
            ((so ++ [((x * (m.Phases.length : Int)) + x3)]).length * 8 ≤ 140737488355328) ∧
            condW (x3 == 0)
              (((0 : Int) ≤ x ∧ x < (x4.length : Int)) ∧
              ((0 : Int) ≤ 0 ∧ 0 < ((so ++ [((x * (m.Phases.length : Int)) + x3)]).length : Int)) ∧
              ((at' x4 x ++ [(at' (so ++ [((x * (m.Phases.length : Int)) + x3)]) 0)]).length * 8 ≤ 140737488355328) ∧
              ((0 : Int) ≤ x ∧ x < (x4.length : Int)) ∧
              rng (x3 + 1) ∧
              next2 ((x3 + 1), (set' x4 x (at' x4 x ++ [(at' (so ++ [((x * (m.Phases.length : Int)) + x3)]) 0)])), (so ++ [((x * (m.Phases.length : Int)) + x3)]), x5))
              (((0 : Int) ≤ x ∧ x < (x4.length : Int)) ∧
              ∃ r, (slices_Clone___int_int__e_W (so ++ [((x * (m.Phases.length : Int)) + x3)]) fun y1 => y1 = r) ∧
              ∃ u r1, (phases_Unfold_1__e_W 3 0 r ((m.P.length : Int) * (m.Phases.length : Int)) 0 x5 fun y2 y3 => y2 = u ∧ y3 = r1) ∧
              ((at' x4 x ++ [r1]).length * 8 ≤ 140737488355328) ∧
              ((0 : Int) ≤ x ∧ x < (x4.length : Int)) ∧
              rng (x3 + 1) ∧
              next2 ((x3 + 1), (set' x4 x (at' x4 x ++ [r1])), (so ++ [((x * (m.Phases.length : Int)) + x3)]), u)))
            (rng (x + 1) ∧
            next1 ((x + 1), x4, x5)))
        (loopW (σ := Int × (List Int) × (List GNode)) (0, [], x2) fun ⟨x6, tops, x7⟩ next3 =>
          condW (decide (x6 < (m.Phases.length : Int)))
            (((0 : Int) ≤ x6 ∧ x6 < (m.Phases.length : Int)) ∧
            rng (((m.P.length : Int) * (m.Phases.length : Int)) + (x7.length : Int)) ∧
            loopW (σ := Int × (List GNode)) (0, x7) fun ⟨x8, x9⟩ next4 =>
              condW (decide (x8 < (((at' m.Phases x6).Nodes).length : Int)))
                (((0 : Int) ≤ x8 ∧ x8 < (((at' m.Phases x6).Nodes).length : Int)) ∧
                loopW (σ := Int × (List Int)) (0, []) fun ⟨x10, args⟩ next5 =>
                  condW (decide (x10 < (((at' ((at' m.Phases x6).Nodes) x8).Args).length : Int)))
                    (((0 : Int) ≤ x10 ∧ x10 < (((at' ((at' m.Phases x6).Nodes) x8).Args).length : Int)) ∧
                    setW (at' ((at' ((at' m.Phases x6).Nodes) x8).Args) x10) fun a =>
                    phases_Unfold_2__e_W a (at' m.Phases x6) x6 (((m.P.length : Int) * (m.Phases.length : Int)) + (x7.length : Int)) x1 fun r2 =>
                    ((args ++ [r2]).length * 8 ≤ 140737488355328) ∧
                    rng (x10 + 1) ∧
                    next5 ((x10 + 1), (args ++ [r2])))
                    (phases_Unfold_1__e_W ((at' ((at' m.Phases x6).Nodes) x8).Kind) ((at' ((at' m.Phases x6).Nodes) x8).K) args ((m.P.length : Int) * (m.Phases.length : Int)) 0 x9 fun u1 _ =>
                    rng (x8 + 1) ∧
                    next4 ((x8 + 1), u1)))
                (phases_Unfold_2__e_W ((at' m.Phases x6).Top) (at' m.Phases x6) x6 (((m.P.length : Int) * (m.Phases.length : Int)) + (x7.length : Int)) x1 fun r4 =>
                ((tops ++ [r4]).length * 8 ≤ 140737488355328) ∧
                rng (x6 + 1) ∧
                next3 ((x6 + 1), (tops ++ [r4]), x9)))
            (((0 : Int) ≤ 0 ∧ 0 < (tops.length : Int)) ∧
            joinW (α := Int × (List GNode)) (fun next8 =>
              condW (decide (1 < (m.Phases.length : Int)))
                (phases_Unfold_1__e_W 3 0 tops ((m.P.length : Int) * (m.Phases.length : Int)) (at' tops 0) x7 fun u2 r6 =>
                next8 (r6, u2))
                (next8 ((at' tops 0), x7)))
              fun ⟨x11, x12⟩ =>
              condW (decide (128 < (x12.length : Int)))
                (Q (⟨0, [], 0⟩ : GFormula) [] (some 4))
                (loopW (σ := Int × (List GRat)) (0, []) fun ⟨x13, p⟩ next6 =>
                  condW (decide (x13 < (m.P.length : Int)))
                    (((0 : Int) ≤ x13 ∧ x13 < (m.P.length : Int)) ∧
                    loopW (σ := Int × (List GRat)) (0, p) fun ⟨x14, p1⟩ next7 =>
                      condW (decide (x14 < ((at' m.P x13).length : Int)))
                        (((0 : Int) ≤ x14 ∧ x14 < ((at' m.P x13).length : Int)) ∧
                        rational_Add_W (at' (at' m.P x13) x14) (⟨false, [], []⟩ : GRat) fun r5 =>
                        ((p1 ++ [r5]).length * 56 ≤ 140737488355328) ∧
                        rng (x14 + 1) ∧
                        next7 ((x14 + 1), (p1 ++ [r5])))
                        (rng (x13 + 1) ∧
                        next6 ((x13 + 1), p1)))
                    (Q (⟨((m.P.length : Int) * (m.Phases.length : Int)), x12, x11⟩ : GFormula) p none)))))
def phases_CheckHistory_W (m : GMission) (h1 : List Int) (Q : Option Int → Prop) : Prop :=
  phases_Check_W m fun err =>
  condW (Option.isSome err)
    (Q err)
    (condW ((h1.length : Int) != (m.P.length : Int))
      (Q (some 11))
      (loopW (σ := Int) 0 fun x next1 =>
        condW (decide (x < (h1.length : Int)))
          (((0 : Int) ≤ x ∧ x < (h1.length : Int)) ∧
          joinW (α := Bool) (fun next2 =>
            condW (decide ((at' h1 x) < 0))
              (next2 true)
              (next2 (decide ((m.Phases.length : Int) < (at' h1 x)))))
            fun x1 =>
            condW x1
              (Q (some 3))
              (rng (x + 1) ∧
              next1 (x + 1)))
          (Q none)))
def phases_failed_W (h1 : List Int) (j : Int) (Q : Int → Prop) : Prop :=
  loopW (σ := Int × Int) (0, 0) fun ⟨set, x⟩ next1 =>
    condW (decide (x < (h1.length : Int)))
      (((0 : Int) ≤ x ∧ x < (h1.length : Int)) ∧
      condW (decide ((at' h1 x) ≤ j))
        ((((0 : Int) ≤ x ∧ x ≤ 64) ∧ rng (1 * 2 ^ (Int.toNat x))) ∧
        rng (x + 1) ∧
        next1 ((bits .or .i64 set (1 * 2 ^ (Int.toNat x))), (x + 1)))
        (rng (x + 1) ∧
        next1 (set, (x + 1))))
      (Q set)
def phases_Fails_W (m : GMission) (h1 : List Int) (Q : Int → Option Int → Prop) : Prop :=
  phases_CheckHistory_W m h1 fun err =>
  condW (Option.isSome err)
    (Q 0 err)
    (loopW (σ := Int) 0 fun x next1 =>
      condW (decide (x < (m.Phases.length : Int)))
        (((0 : Int) ≤ x ∧ x < (m.Phases.length : Int)) ∧
        detW (phases_failed_W h1 x) fun r =>
        detW2 (formula_Value_W (at' m.Phases x) r) fun r1 r2 =>
        condW (Option.isSome r2)
          (Q 0 r2)
          (condW r1
            (Q x none)
            (rng (x + 1) ∧
            next1 (x + 1))))
        (Q (m.Phases.length : Int) none))
def phases_State_W (m : GMission) (h1 : List Int) (Q : Int → Option Int → Prop) : Prop :=
  phases_CheckHistory_W m h1 fun err =>
  condW (Option.isSome err)
    (Q 0 err)
    (loopW (σ := Int × Int) (0, 0) fun ⟨set, x⟩ next1 =>
      condW (decide (x < (h1.length : Int)))
        (((0 : Int) ≤ x ∧ x < (h1.length : Int)) ∧
        condW (decide ((at' h1 x) < (m.Phases.length : Int)))
          (rng (x * (m.Phases.length : Int)) ∧
          rng ((x * (m.Phases.length : Int)) + (at' h1 x)) ∧
          (((0 : Int) ≤ ((x * (m.Phases.length : Int)) + (at' h1 x)) ∧ ((x * (m.Phases.length : Int)) + (at' h1 x)) ≤ 64) ∧ rng (1 * 2 ^ (Int.toNat ((x * (m.Phases.length : Int)) + (at' h1 x))))) ∧
          setW (bits .or .i64 set (1 * 2 ^ (Int.toNat ((x * (m.Phases.length : Int)) + (at' h1 x))))) fun set1 =>
          rng (x + 1) ∧
          next1 (set1, (x + 1)))
          (rng (x + 1) ∧
          next1 (set, (x + 1))))
        (Q set none))
def phases_Weight_W (m : GMission) (h1 : List Int) (Q : GRat → Option Int → Prop) : Prop :=
  phases_CheckHistory_W m h1 fun err =>
  condW (Option.isSome err)
    (Q (⟨false, [], []⟩ : GRat) err)
    (rational_Of_W 1 fun r =>
    loopW (σ := Int × GRat) (0, r) fun ⟨x, x1⟩ next1 =>
      condW (decide (x < (h1.length : Int)))
        (((0 : Int) ≤ x ∧ x < (h1.length : Int)) ∧
        ((0 : Int) ≤ x ∧ x < (m.P.length : Int)) ∧
        rng ((at' h1 x) + 1) ∧
        ((0 : Int) ≤ 0 ∧ 0 ≤ (min ((at' h1 x) + 1) (m.Phases.length : Int)) ∧ (min ((at' h1 x) + 1) (m.Phases.length : Int)) ≤ ((at' m.P x).length : Int)) ∧
        loopW (σ := Int × GRat) (0, x1) fun ⟨x2, x3⟩ next2 =>
          condW (decide (x2 < ((sub' (at' m.P x) 0 (min ((at' h1 x) + 1) (m.Phases.length : Int))).length : Int)))
            (((0 : Int) ≤ x2 ∧ x2 < ((sub' (at' m.P x) 0 (min ((at' h1 x) + 1) (m.Phases.length : Int))).length : Int)) ∧
            joinW (α := GRat) (fun next3 =>
              condW (decide (x2 < (at' h1 x)))
                (rational_Sub_W r (at' (sub' (at' m.P x) 0 (min ((at' h1 x) + 1) (m.Phases.length : Int))) x2) fun r2 =>
                next3 r2)
                (next3 (at' (sub' (at' m.P x) 0 (min ((at' h1 x) + 1) (m.Phases.length : Int))) x2)))
              fun x4 =>
              rational_Mul_W x3 x4 fun r1 =>
              rng (x2 + 1) ∧
              next2 ((x2 + 1), r1))
            (rng (x + 1) ∧
            next1 ((x + 1), x3)))
        (Q x1 none))
def phases_Failed_W (m : GMission) (h1 : List Int) (j : Int) (Q : Int → Option Int → Prop) : Prop :=
  phases_CheckHistory_W m h1 fun err =>
  condW (Option.isSome err)
    (Q 0 err)
    (joinW (α := Bool) (fun next1 =>
      condW (decide (j < 0))
        (next1 true)
        (next1 (decide ((m.Phases.length : Int) ≤ j))))
      fun x =>
      condW x
        (Q 0 (some 10))
        (phases_failed_W h1 j fun r =>
        Q r none))
end Go.Gg
