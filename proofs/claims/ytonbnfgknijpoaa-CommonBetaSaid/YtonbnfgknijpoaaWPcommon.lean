/- Formulas of functions. Conditions: none. -/
import Derived.Test.YtonbnfgknijpoaaGgU
import Derived.Test.YtonbnfgknijpoaaWB
import Derived.Test.YtonbnfgknijpoaaWS
namespace Go.Gg
def common_probs_1_W (x : GRat) (Q : Bool → Prop) : Prop :=
  rational_Prob_W x fun r =>
  Q (!r)
def slices_IndexFunc___api_Rat_api_Rat__common_probs_1_W (s : List GRat) (Q : Int → Prop) : Prop :=
  loopW (σ := Int) 0 fun x next1 =>
    condW (decide (x < (s.length : Int)))
      (((0 : Int) ≤ x ∧ x < (s.length : Int)) ∧
      common_probs_1_W (at' s x) fun r =>
      condW r
        (Q x)
        (rng (x + 1) ∧
        next1 (x + 1)))
      (Q (-1))
def slices_ContainsFunc___api_Rat_api_Rat__common_probs_1_W (s : List GRat) (Q : Bool → Prop) : Prop :=
  slices_IndexFunc___api_Rat_api_Rat__common_probs_1_W s fun r =>
  Q (decide (0 ≤ r))
def common_probs_W (l : List GRat) (Q : Bool → Prop) : Prop :=
  slices_ContainsFunc___api_Rat_api_Rat__common_probs_1_W l fun r =>
  Q (!r)
def common_choose_W (n : Int) (k1 : Int) (Q : Int → Prop) : Prop :=
  loopW (σ := Int × Int) (1, 0) fun ⟨out, x⟩ next1 =>
    condW (decide (x < k1))
      (rng (n - x) ∧
      rng (out * (n - x)) ∧
      rng (x + 1) ∧
      ((x + 1) ≠ 0 ∧ rng (Int.tdiv (out * (n - x)) (x + 1))) ∧
      rng (x + 1) ∧
      next1 ((Int.tdiv (out * (n - x)) (x + 1)), (x + 1)))
      (Q out)
def common_Greek_W (p : GRat) (factors : List GRat) (Q : List GRat → Option Int → Prop) : Prop :=
  joinW (α := Bool) (fun next4 =>
    common_probs_W [p] fun r8 =>
    condW (!r8)
      (next4 true)
      (common_probs_W factors fun r9 =>
      next4 (!r9)))
    fun x =>
    condW x
      (Q [] (some 3))
      (joinW (α := Bool) (fun next3 =>
        condW (decide ((factors.length : Int) < 1))
          (next3 true)
          (next3 (decide (3 < (factors.length : Int)))))
        fun x1 =>
        condW x1
          (Q [] (some 11))
          (rng ((factors.length : Int) + 1) ∧
          loopW (σ := Int × GRat × (List GRat)) (1, p, []) fun ⟨k1, x2, out⟩ next1 =>
            condW (decide (k1 ≤ ((factors.length : Int) + 1)))
              (joinW (α := GRat × GRat) (fun next2 =>
                condW (decide (k1 < ((factors.length : Int) + 1)))
                  (detW (rational_Of_W 1) fun r4 =>
                  rng (k1 - 1) ∧
                  ((0 : Int) ≤ (k1 - 1) ∧ (k1 - 1) < (factors.length : Int)) ∧
                  detW (rational_Sub_W r4 (at' factors (k1 - 1))) fun r5 =>
                  detW (rational_Mul_W x2 r5) fun r6 =>
                  rng (k1 - 1) ∧
                  ((0 : Int) ≤ (k1 - 1) ∧ (k1 - 1) < (factors.length : Int)) ∧
                  detW (rational_Mul_W x2 (at' factors (k1 - 1))) fun r7 =>
                  next2 (r7, r6))
                  (next2 (x2, x2)))
                fun ⟨x3, x4⟩ =>
                rng (((factors.length : Int) + 1) - 1) ∧
                rng (k1 - 1) ∧
                detW (common_choose_W (((factors.length : Int) + 1) - 1) (k1 - 1)) fun r =>
                detW (rational_Of_W r) fun r1 =>
                detW2 (rational_Div_W x4 r1) fun r2 r3 =>
                condW (Option.isSome r3)
                  (Q [] r3)
                  (((out ++ [r2]).length * 56 ≤ 140737488355328) ∧
                  rng (k1 + 1) ∧
                  next1 ((k1 + 1), x3, (out ++ [r2]))))
              (Q out none)))
def common_Beta_W (p : GRat) (beta : GRat) (Q : GRat → GRat → Option Int → Prop) : Prop :=
  common_probs_W [p, beta] fun r =>
  condW (!r)
    (Q (⟨false, [], []⟩ : GRat) (⟨false, [], []⟩ : GRat) (some 3))
    (rational_Mul_W beta p fun r1 =>
    detW (rational_Of_W 1) fun r2 =>
    detW (rational_Sub_W r2 r1) fun r3 =>
    rational_Sign_W r3 fun r4 =>
    condW (r4 == 0)
      (Q (⟨false, [], []⟩ : GRat) r1 none)
      (detW (rational_Sub_W p r1) fun r5 =>
      detW2 (rational_Div_W r5 r3) fun r6 r7 =>
      Q r6 r1 r7))
def common_Total_W (q : List GRat) (Q : GRat → Option Int → Prop) : Prop :=
  joinW (α := Bool) (fun next2 =>
    condW (decide ((q.length : Int) < 2))
      (next2 true)
      (next2 (decide (4 < (q.length : Int)))))
    fun x =>
    condW x
      (Q (⟨false, [], []⟩ : GRat) (some 11))
      (common_probs_W q fun r =>
      condW (!r)
        (Q (⟨false, [], []⟩ : GRat) (some 3))
        (loopW (σ := Int × GRat) (0, (⟨false, [], []⟩ : GRat)) fun ⟨x1, x2⟩ next1 =>
          condW (decide (x1 < (q.length : Int)))
            (((0 : Int) ≤ x1 ∧ x1 < (q.length : Int)) ∧
            rng ((q.length : Int) - 1) ∧
            detW (common_choose_W ((q.length : Int) - 1) x1) fun r1 =>
            detW (rational_Of_W r1) fun r2 =>
            detW (rational_Mul_W (at' q x1) r2) fun r3 =>
            detW (rational_Add_W x2 r3) fun r4 =>
            rng (x1 + 1) ∧
            next1 ((x1 + 1), r4))
            (Q x2 none)))
end Go.Gg
