/- Formulas of functions. Conditions: none. -/
import Derived.Test.YtonbnfgknijpoaaGgU
import Derived.Test.YtonbnfgknijpoaaWB
import Derived.Test.YtonbnfgknijpoaaWF
import Derived.Test.YtonbnfgknijpoaaWS
namespace Go.Gg
def common_probs_1_W (x : GRat) (Q : Bool → Prop) : Prop :=
  rational_Prob_W x fun r =>
  Q (!r)
def slices_IndexFunc___api_Rat_api_Rat__common_probs_1_W (s : List GRat) (Q : Int → Prop) : Prop :=
  loopW (σ := Int) 0 fun x next1 =>
    condW (decide (x < (s.length : Int)))
      (((0 : Int) ≤ x ∧ x < (s.length : Int)) ∧
      common_probs_1_W (at' s x) fun r =>
      condW r
        (Q x)
        (rng (x + 1) ∧
        next1 (x + 1)))
      (Q (-1))
def slices_ContainsFunc___api_Rat_api_Rat__common_probs_1_W (s : List GRat) (Q : Bool → Prop) : Prop :=
  slices_IndexFunc___api_Rat_api_Rat__common_probs_1_W s fun r =>
  Q (decide (0 ≤ r))
def common_probs_W (l : List GRat) (Q : Bool → Prop) : Prop :=
  slices_ContainsFunc___api_Rat_api_Rat__common_probs_1_W l fun r =>
  Q (!r)
def common_choose_W (n : Int) (k1 : Int) (Q : Int → Prop) : Prop :=
  loopW (σ := Int × Int) (1, 0) fun ⟨out, x⟩ next1 =>
    condW (decide (x < k1))
      (rng (n - x) ∧
      rng (out * (n - x)) ∧
      rng (x + 1) ∧
      ((x + 1) ≠ 0 ∧ rng (Int.tdiv (out * (n - x)) (x + 1))) ∧
      rng (x + 1) ∧
      next1 ((Int.tdiv (out * (n - x)) (x + 1)), (x + 1)))
      (Q out)
def common_Greek_W (p : GRat) (factors : List GRat) (Q : List GRat → Option Int → Prop) : Prop :=
  joinW (α := Bool) (fun next4 =>
    common_probs_W [p] fun r8 =>
    condW (!r8)
      (next4 true)
      (common_probs_W factors fun r9 =>
      next4 (!r9)))
    fun x =>
    condW x
      (Q [] (some 3))
      (joinW (α := Bool) (fun next3 =>
        condW (decide ((factors.length : Int) < 1))
          (next3 true)
          (next3 (decide (3 < (factors.length : Int)))))
        fun x1 =>
        condW x1
          (Q [] (some 11))
          (rng ((factors.length : Int) + 1) ∧
          loopW (σ := Int × GRat × (List GRat)) (1, p, []) fun ⟨k1, x2, out⟩ next1 =>
            condW (decide (k1 ≤ ((factors.length : Int) + 1)))
              (joinW (α := GRat × GRat) (fun next2 =>
                condW (decide (k1 < ((factors.length : Int) + 1)))
                  (detW (rational_Of_W 1) fun r4 =>
                  rng (k1 - 1) ∧
                  ((0 : Int) ≤ (k1 - 1) ∧ (k1 - 1) < (factors.length : Int)) ∧
                  detW (rational_Sub_W r4 (at' factors (k1 - 1))) fun r5 =>
                  detW (rational_Mul_W x2 r5) fun r6 =>
                  rng (k1 - 1) ∧
                  ((0 : Int) ≤ (k1 - 1) ∧ (k1 - 1) < (factors.length : Int)) ∧
                  detW (rational_Mul_W x2 (at' factors (k1 - 1))) fun r7 =>
                  next2 (r7, r6))
                  (next2 (x2, x2)))
                fun ⟨x3, x4⟩ =>
                rng (((factors.length : Int) + 1) - 1) ∧
                rng (k1 - 1) ∧
                detW (common_choose_W (((factors.length : Int) + 1) - 1) (k1 - 1)) fun r =>
                detW (rational_Of_W r) fun r1 =>
                detW2 (rational_Div_W x4 r1) fun r2 r3 =>
                condW (Option.isSome r3)
                  (Q [] r3)
                  (((out ++ [r2]).length * 56 ≤ 140737488355328) ∧
                  rng (k1 + 1) ∧
                  next1 ((k1 + 1), x3, (out ++ [r2]))))
              (Q out none)))
def common_Beta_W (p : GRat) (beta : GRat) (Q : GRat → GRat → Option Int → Prop) : Prop :=
  common_probs_W [p, beta] fun r =>
  condW (!r)
    (Q (⟨false, [], []⟩ : GRat) (⟨false, [], []⟩ : GRat) (some 3))
    (rational_Mul_W beta p fun r1 =>
    detW (rational_Of_W 1) fun r2 =>
    detW (rational_Sub_W r2 r1) fun r3 =>
    rational_Sign_W r3 fun r4 =>
    condW (r4 == 0)
      (Q (⟨false, [], []⟩ : GRat) r1 none)
      (detW (rational_Sub_W p r1) fun r5 =>
      detW2 (rational_Div_W r5 r3) fun r6 r7 =>
      Q r6 r1 r7))
def common_Total_W (q : List GRat) (Q : GRat → Option Int → Prop) : Prop :=
  joinW (α := Bool) (fun next2 =>
    condW (decide ((q.length : Int) < 2))
      (next2 true)
      (next2 (decide (4 < (q.length : Int)))))
    fun x =>
    condW x
      (Q (⟨false, [], []⟩ : GRat) (some 11))
      (common_probs_W q fun r =>
      condW (!r)
        (Q (⟨false, [], []⟩ : GRat) (some 3))
        (loopW (σ := Int × GRat) (0, (⟨false, [], []⟩ : GRat)) fun ⟨x1, x2⟩ next1 =>
          condW (decide (x1 < (q.length : Int)))
            (((0 : Int) ≤ x1 ∧ x1 < (q.length : Int)) ∧
            rng ((q.length : Int) - 1) ∧
            detW (common_choose_W ((q.length : Int) - 1) x1) fun r1 =>
            detW (rational_Of_W r1) fun r2 =>
            detW (rational_Mul_W (at' q x1) r2) fun r3 =>
            detW (rational_Add_W x2 r3) fun r4 =>
            rng (x1 + 1) ∧
            next1 ((x1 + 1), r4))
            (Q x2 none)))
def common_checkGroup_W (x0 : GCauseGroup) (x1 : List GRat) (x2 : List Int) (Q : List Int → Option Int → Prop) : Prop := False
def common_check_W (f : GFormula) (p : List GRat) (groups : List GCauseGroup) (Q : Option Int → Prop) : Prop :=
  formula_Check_W f fun e =>
  condW (Option.isSome e)
    (Q e)
    (condW ((p.length : Int) != f.Vars)
      (Q (some 11))
      (common_probs_W p fun r =>
      condW (!r)
        (Q (some 3))
        (loopW (σ := (List Int) × Int) ([], 0) fun ⟨members, x⟩ next1 =>
          condW (decide (x < (groups.length : Int)))
            (((0 : Int) ≤ x ∧ x < (groups.length : Int)) ∧
            common_checkGroup_W (at' groups x) p members fun r1 r2 =>
            condW (Option.isSome r2)
              (Q r2)
              (rng (x + 1) ∧
              next1 (r1, (x + 1))))
            (Q none))))
def common_clone_W (x : GRat) (Q : GRat → Prop) : Prop :=
  detW (slices_Clone___uint32_uint32_W x.Num) fun r =>
  detW (slices_Clone___uint32_uint32_W x.Den) fun r1 =>
  Q (⟨x.Neg, r, r1⟩ : GRat)
def common_causes_W (g1 : GCauseGroup) (p : GRat) (Q : List Gcause → GRat → Option Int → Prop) : Prop :=
  condW (g1.Kind == 0)
    (((0 : Int) ≤ 0 ∧ 0 < (g1.Factors.length : Int)) ∧
    detW3 (common_Beta_W p (at' g1.Factors 0)) fun r r1 r2 =>
    Q [(⟨(⟨r1.Neg, r1.Num, r1.Den⟩ : GRat), g1.Members⟩ : Gcause)] r r2)
    (common_Greek_W p g1.Factors fun r3 r4 =>
    condW (Option.isSome r4)
      (Q [] (⟨false, [], []⟩ : GRat) r4)
      ((((0 : Int) ≤ (g1.Members.length : Int) ∧ (g1.Members.length : Int) ≤ 64) ∧ rng (1 * 2 ^ (Int.toNat (g1.Members.length : Int)))) ∧
      loopW (σ := Int × (List Gcause)) (0, []) fun ⟨x, out⟩ next1 =>
        condW (decide (x < (1 * 2 ^ (Int.toNat (g1.Members.length : Int)))))
          (loopW (σ := Int × (List Int)) (0, []) fun ⟨x1, l⟩ next2 =>
            condW (decide (x1 < (g1.Members.length : Int)))
              (((0 : Int) ≤ x1 ∧ x1 < (g1.Members.length : Int)) ∧
              ((0 : Int) ≤ x1 ∧ x1 ≤ 64) ∧
              condW ((bits .and .i64 (x / 2 ^ (Int.toNat x1)) 1) == 1)
                (((l ++ [(at' g1.Members x1)]).length * 8 ≤ 140737488355328) ∧
                rng (x1 + 1) ∧
                next2 ((x1 + 1), (l ++ [(at' g1.Members x1)])))
                (rng (x1 + 1) ∧
                next2 ((x1 + 1), l)))
              (condW (decide (1 < (l.length : Int)))
                (rng ((l.length : Int) - 1) ∧
                ((0 : Int) ≤ ((l.length : Int) - 1) ∧ ((l.length : Int) - 1) < (r3.length : Int)) ∧
                ((out ++ [(⟨(⟨(at' r3 ((l.length : Int) - 1)).Neg, (at' r3 ((l.length : Int) - 1)).Num, (at' r3 ((l.length : Int) - 1)).Den⟩ : GRat), l⟩ : Gcause)]).length * 80 ≤ 140737488355328) ∧
                rng (x + 1) ∧
                next1 ((x + 1), (out ++ [(⟨(⟨(at' r3 ((l.length : Int) - 1)).Neg, (at' r3 ((l.length : Int) - 1)).Num, (at' r3 ((l.length : Int) - 1)).Den⟩ : GRat), l⟩ : Gcause)])))
                (rng (x + 1) ∧
                next1 ((x + 1), out))))
          (((0 : Int) ≤ 0 ∧ 0 < (r3.length : Int)) ∧
          Q out (at' r3 0) none)))
def common_Expand_W (x0 : GFormula) (x1 : List GRat) (x2 : List GCauseGroup) (Q : GFormula → List GRat → Option Int → Prop) : Prop := False
end Go.Gg
