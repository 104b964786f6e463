/- Formulas of functions. Conditions: none. -/
import Derived.Test.YtonbnfgknijpoaaGgU
import Derived.Test.YtonbnfgknijpoaaWB
namespace Go.Gg
def ref45_probs_W (l : List GRat) (Q : Bool → Prop) : Prop :=
  loopW (σ := Int) 0 fun x next1 =>
    condW (decide (x < (l.length : Int)))
      (((0 : Int) ≤ x ∧ x < (l.length : Int)) ∧
      ref02_Prob_W (at' l x) fun r =>
      condW (!r)
        (Q false)
        (rng (x + 1) ∧
        next1 (x + 1)))
      (Q true)
def ref45_rest_W (x : GRat) (Q : GRat → Prop) : Prop :=
  detW (ref02_Of_W 1) fun r =>
  detW (ref02_Sub_W r x) fun r1 =>
  Q r1
def ref45_choose_W (n : Int) (k1 : Int) (Q : Int → Prop) : Prop :=
  loopW (σ := Int × Int) (1, 0) fun ⟨out, x⟩ next1 =>
    condW (decide (x < k1))
      (rng (n - x) ∧
      rng (out * (n - x)) ∧
      rng (x + 1) ∧
      ((x + 1) ≠ 0 ∧ rng (Int.tdiv (out * (n - x)) (x + 1))) ∧
      rng (x + 1) ∧
      next1 ((Int.tdiv (out * (n - x)) (x + 1)), (x + 1)))
      (Q out)
def ref45_Greek_W (p : GRat) (factors : List GRat) (Q : List GRat → Int → Prop) : Prop :=
  joinW (α := Bool) (fun next4 =>
    ref02_Prob_W p fun r7 =>
    condW (!r7)
      (next4 true)
      (ref45_probs_W factors fun r8 =>
      next4 (!r8)))
    fun x =>
    condW x
      (Q [] 3)
      (joinW (α := Bool) (fun next3 =>
        condW (decide ((factors.length : Int) < 1))
          (next3 true)
          (next3 (decide (3 < (factors.length : Int)))))
        fun x1 =>
        condW x1
          (Q [] 11)
          (rng ((factors.length : Int) + 1) ∧
          loopW (σ := Int × GRat × (List GRat)) (1, p, []) fun ⟨k1, x2, out⟩ next1 =>
            condW (decide (k1 ≤ ((factors.length : Int) + 1)))
              (joinW (α := GRat × GRat) (fun next2 =>
                condW (decide (k1 < ((factors.length : Int) + 1)))
                  (rng (k1 - 1) ∧
                  ((0 : Int) ≤ (k1 - 1) ∧ (k1 - 1) < (factors.length : Int)) ∧
                  detW (ref45_rest_W (at' factors (k1 - 1))) fun r4 =>
                  detW (ref02_Mul_W x2 r4) fun r5 =>
                  rng (k1 - 1) ∧
                  ((0 : Int) ≤ (k1 - 1) ∧ (k1 - 1) < (factors.length : Int)) ∧
                  detW (ref02_Mul_W x2 (at' factors (k1 - 1))) fun r6 =>
                  next2 (r6, r5))
                  (next2 (x2, x2)))
                fun ⟨x3, x4⟩ =>
                rng (((factors.length : Int) + 1) - 1) ∧
                rng (k1 - 1) ∧
                detW (ref45_choose_W (((factors.length : Int) + 1) - 1) (k1 - 1)) fun r =>
                detW (ref02_Of_W r) fun r1 =>
                detW2 (ref02_Div_W x4 r1) fun r2 _ =>
                ((out ++ [r2]).length * 56 ≤ 140737488355328) ∧
                rng (k1 + 1) ∧
                next1 ((k1 + 1), x3, (out ++ [r2])))
              (Q out 0)))
def ref45_Beta_W (p : GRat) (beta : GRat) (Q : GRat → GRat → Int → Prop) : Prop :=
  joinW (α := Bool) (fun next1 =>
    ref02_Prob_W p fun r7 =>
    condW (!r7)
      (next1 true)
      (ref02_Prob_W beta fun r8 =>
      next1 (!r8)))
    fun x =>
    condW x
      (Q (⟨false, [], []⟩ : GRat) (⟨false, [], []⟩ : GRat) 3)
      (ref02_Mul_W beta p fun r =>
      ref45_rest_W r fun r1 =>
      ref02_Sign_W r1 fun r2 =>
      condW (r2 == 0)
        (Q (⟨false, [], []⟩ : GRat) r 0)
        (detW (ref02_Sub_W p r) fun r3 =>
        detW (ref45_rest_W r) fun r4 =>
        detW2 (ref02_Div_W r3 r4) fun r5 _ =>
        Q r5 r 0))
def ref45_Total_W (q : List GRat) (Q : GRat → Int → Prop) : Prop :=
  joinW (α := Bool) (fun next2 =>
    condW (decide ((q.length : Int) < 2))
      (next2 true)
      (next2 (decide (4 < (q.length : Int)))))
    fun x =>
    condW x
      (Q (⟨false, [], []⟩ : GRat) 11)
      (ref45_probs_W q fun r =>
      condW (!r)
        (Q (⟨false, [], []⟩ : GRat) 3)
        (loopW (σ := Int × GRat) (0, (⟨false, [], []⟩ : GRat)) fun ⟨x1, x2⟩ next1 =>
          condW (decide (x1 < (q.length : Int)))
            (((0 : Int) ≤ x1 ∧ x1 < (q.length : Int)) ∧
            rng ((q.length : Int) - 1) ∧
            detW (ref45_choose_W ((q.length : Int) - 1) x1) fun r1 =>
            detW (ref02_Of_W r1) fun r2 =>
            detW (ref02_Mul_W (at' q x1) r2) fun r3 =>
            detW (ref02_Add_W x2 r3) fun r4 =>
            rng (x1 + 1) ∧
            next1 ((x1 + 1), r4))
            (Q x2 0)))
end Go.Gg
