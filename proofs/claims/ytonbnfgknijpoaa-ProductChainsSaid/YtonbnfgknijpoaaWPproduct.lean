/- Formulas of functions. Conditions: none. -/
import Derived.Test.YtonbnfgknijpoaaGgU
import Derived.Test.YtonbnfgknijpoaaWB
import Derived.Test.YtonbnfgknijpoaaWF
namespace Go.Gg
def product_rate_W (x : GRat) (Q : Bool → Prop) : Prop :=
  rational_Valid_W x fun r =>
  condW r
    (rational_Sign_W x fun r1 =>
    Q (decide (0 ≤ r1)))
    (Q false)
def product_Unavailable_W (fail : GRat) (repair : GRat) (Q : GRat → Option Int → Prop) : Prop :=
  joinW (α := Bool) (fun next1 =>
    product_rate_W fail fun r3 =>
    condW (!r3)
      (next1 true)
      (product_rate_W repair fun r4 =>
      next1 (!r4)))
    fun x =>
    condW x
      (Q (⟨false, [], []⟩ : GRat) (some 3))
      (detW (rational_Add_W fail repair) fun r =>
      detW2 (rational_Div_W fail r) fun r1 r2 =>
      Q r1 r2)
def product_check_W (fail : List GRat) (repair : List GRat) (Q : Option Int → Prop) : Prop :=
  joinW (α := Bool) (fun next5 =>
    condW ((fail.length : Int) != (repair.length : Int))
      (next5 true)
      (next5 ((fail.length : Int) == 0)))
    fun x =>
    condW x
      (Q (some 11))
      (condW (decide (8 < (fail.length : Int)))
        (Q (some 4))
        (loopW (σ := Int) 0 fun x1 next1 =>
          condW (decide (x1 < (fail.length : Int)))
            (joinW (α := Bool) (fun next2 =>
              ((0 : Int) ≤ x1 ∧ x1 < (fail.length : Int)) ∧
              product_rate_W (at' fail x1) fun r =>
              condW (!r)
                (next2 true)
                (((0 : Int) ≤ x1 ∧ x1 < (repair.length : Int)) ∧
                product_rate_W (at' repair x1) fun r1 =>
                next2 (!r1)))
              fun x2 =>
              condW x2
                (Q (some 3))
                (rng (x1 + 1) ∧
                next1 (x1 + 1)))
            (loopW (σ := Int) 0 fun x3 next3 =>
              condW (decide (x3 < (fail.length : Int)))
                (joinW (α := Bool) (fun next4 =>
                  ((0 : Int) ≤ x3 ∧ x3 < (fail.length : Int)) ∧
                  rational_Sign_W (at' fail x3) fun r2 =>
                  condW (r2 == 0)
                    (((0 : Int) ≤ x3 ∧ x3 < (repair.length : Int)) ∧
                    rational_Sign_W (at' repair x3) fun r3 =>
                    next4 (r3 == 0))
                    (next4 false))
                  fun x4 =>
                  condW x4
                    (Q (some 8))
                    (rng (x3 + 1) ∧
                    next3 (x3 + 1)))
                (Q none))))
def product_Stationary_W (fail : List GRat) (repair : List GRat) (Q : List GRat → Option Int → Prop) : Prop :=
  product_check_W fail repair fun e =>
  condW (Option.isSome e)
    (Q [] e)
    (rational_Of_W 1 fun r =>
    loopW (σ := (List GRat) × Int) ([r], 0) fun ⟨out, x⟩ next1 =>
      condW (decide (x < (fail.length : Int)))
        (((0 : Int) ≤ x ∧ x < (fail.length : Int)) ∧
        ((0 : Int) ≤ x ∧ x < (repair.length : Int)) ∧
        detW2 (product_Unavailable_W (at' fail x) (at' repair x)) fun r1 r2 =>
        condW (Option.isSome r2)
          (Q [] r2)
          (loopW (σ := Int × (List GRat) × (List GRat)) (0, [], []) fun ⟨x1, failed, works⟩ next2 =>
            condW (decide (x1 < (out.length : Int)))
              (((0 : Int) ≤ x1 ∧ x1 < (out.length : Int)) ∧
              rational_Mul_W (at' out x1) r1 fun r3 =>
              ((failed ++ [r3]).length * 56 ≤ 140737488355328) ∧
              detW (rational_Of_W 1) fun r4 =>
              detW (rational_Sub_W r4 r1) fun r5 =>
              detW (rational_Mul_W (at' out x1) r5) fun r6 =>
              ((works ++ [r6]).length * 56 ≤ 140737488355328) ∧
              rng (x1 + 1) ∧
              next2 ((x1 + 1), (failed ++ [r3]), (works ++ [r6])))
              (((works ++ failed).length * 56 ≤ 140737488355328) ∧
              rng (x + 1) ∧
              next1 ((works ++ failed), (x + 1)))))
        (Q out none))
def product_components_W (dist : List GRat) (Q : Int → Option Int → Prop) : Prop :=
  joinW (α := Int) (fun next2 =>
    loopW (σ := Int) 1 fun n1 next3 =>
      condW (decide (n1 ≤ 8))
        ((((0 : Int) ≤ n1 ∧ n1 ≤ 64) ∧ rng (1 * 2 ^ (Int.toNat n1))) ∧
        condW ((1 * 2 ^ (Int.toNat n1)) != (dist.length : Int))
          (rng (n1 + 1) ∧
          next3 (n1 + 1))
          (next2 n1))
        (next2 n1))
    fun n =>
    condW (decide (8 < n))
      (Q 0 (some 11))
      (loopW (σ := Int) 0 fun x next1 =>
        condW (decide (x < (dist.length : Int)))
          (((0 : Int) ≤ x ∧ x < (dist.length : Int)) ∧
          rational_Valid_W (at' dist x) fun r =>
          condW (!r)
            (Q 0 (some 3))
            (rng (x + 1) ∧
            next1 (x + 1)))
          (Q n none))
def product_Marginal_W (dist : List GRat) (i : Int) (Q : GRat → Option Int → Prop) : Prop :=
  product_components_W dist fun r r1 =>
  condW (Option.isSome r1)
    (Q (⟨false, [], []⟩ : GRat) r1)
    (joinW (α := Bool) (fun next2 =>
      condW (decide (i < 0))
        (next2 true)
        (next2 (decide (r ≤ i))))
      fun x =>
      condW x
        (Q (⟨false, [], []⟩ : GRat) (some 10))
        (loopW (σ := Int × GRat) (0, (⟨false, [], []⟩ : GRat)) fun ⟨x1, x2⟩ next1 =>
          condW (decide (x1 < (dist.length : Int)))
            (((0 : Int) ≤ x1 ∧ x1 < (dist.length : Int)) ∧
            ((0 : Int) ≤ i ∧ i ≤ 64) ∧
            condW ((bits .and .i64 (x1 / 2 ^ (Int.toNat i)) 1) == 1)
              (rational_Add_W x2 (at' dist x1) fun r2 =>
              rng (x1 + 1) ∧
              next1 ((x1 + 1), r2))
              (rng (x1 + 1) ∧
              next1 ((x1 + 1), x2)))
            (Q x2 none)))
def product_Chain_W (fail : List GRat) (repair : List GRat) (f : GFormula) (Q : GChain → Option Int → Prop) : Prop :=
  product_check_W fail repair fun e =>
  condW (Option.isSome e)
    (Q (⟨0, 0, [], []⟩ : GChain) e)
    (formula_Check_W f fun e1 =>
    condW (Option.isSome e1)
      (Q (⟨0, 0, [], []⟩ : GChain) e1)
      (condW (f.Vars != (fail.length : Int))
        (Q (⟨0, 0, [], []⟩ : GChain) (some 11))
        ((((0 : Int) ≤ (fail.length : Int) ∧ (fail.length : Int) ≤ 64) ∧ rng (1 * 2 ^ (Int.toNat (fail.length : Int)))) ∧
        (((0 : Int) ≤ (fail.length : Int) ∧ (fail.length : Int) ≤ 64) ∧ rng (1 * 2 ^ (Int.toNat (fail.length : Int)))) ∧
        loopW (σ := Int × (List Bool) × (List GMove)) (0, [], []) fun ⟨x, x1, x2⟩ next1 =>
          condW (decide (x < (1 * 2 ^ (Int.toNat (fail.length : Int)))))
            (formula_Value_W f x fun r r1 =>
            condW (Option.isSome r1)
              (Q (⟨0, 0, [], []⟩ : GChain) r1)
              (((x1 ++ [r]).length * 1 ≤ 140737488355328) ∧
              rng ((fail.length : Int) - 1) ∧
              loopW (σ := Int × (List GMove)) (((fail.length : Int) - 1), x2) fun ⟨i, x3⟩ next2 =>
                condW (decide (0 ≤ i))
                  (joinW (α := Bool) (fun next3 =>
                    ((0 : Int) ≤ i ∧ i ≤ 64) ∧
                    condW ((bits .and .i64 (x / 2 ^ (Int.toNat i)) 1) == 1)
                      (((0 : Int) ≤ i ∧ i < (repair.length : Int)) ∧
                      rational_Sign_W (at' repair i) fun r3 =>
                      next3 (decide (0 < r3)))
                      (next3 false))
                    fun x4 =>
                    condW x4
                      ((((0 : Int) ≤ i ∧ i ≤ 64) ∧ rng (1 * 2 ^ (Int.toNat i))) ∧
                      ((0 : Int) ≤ i ∧ i < (repair.length : Int)) ∧
                      detW (rational_Add_W (at' repair i) (⟨false, [], []⟩ : GRat)) fun r2 =>
                      ((x3 ++ [(⟨x, (bits .andNot .i64 x (1 * 2 ^ (Int.toNat i))), (⟨r2.Neg, r2.Num, r2.Den⟩ : GRat)⟩ : GMove)]).length * 72 ≤ 140737488355328) ∧
                      rng (i - 1) ∧
                      next2 ((i - 1), (x3 ++ [(⟨x, (bits .andNot .i64 x (1 * 2 ^ (Int.toNat i))), (⟨r2.Neg, r2.Num, r2.Den⟩ : GRat)⟩ : GMove)])))
                      (rng (i - 1) ∧
                      next2 ((i - 1), x3)))
                  (loopW (σ := Int × (List GMove)) (0, x3) fun ⟨x5, x6⟩ next4 =>
                    condW (decide (x5 < (fail.length : Int)))
                      (joinW (α := Bool) (fun next5 =>
                        ((0 : Int) ≤ x5 ∧ x5 ≤ 64) ∧
                        condW ((bits .and .i64 (x / 2 ^ (Int.toNat x5)) 1) == 0)
                          (((0 : Int) ≤ x5 ∧ x5 < (fail.length : Int)) ∧
                          rational_Sign_W (at' fail x5) fun r5 =>
                          next5 (decide (0 < r5)))
                          (next5 false))
                        fun x7 =>
                        condW x7
                          ((((0 : Int) ≤ x5 ∧ x5 ≤ 64) ∧ rng (1 * 2 ^ (Int.toNat x5))) ∧
                          ((0 : Int) ≤ x5 ∧ x5 < (fail.length : Int)) ∧
                          detW (rational_Add_W (at' fail x5) (⟨false, [], []⟩ : GRat)) fun r4 =>
                          ((x6 ++ [(⟨x, (bits .or .i64 x (1 * 2 ^ (Int.toNat x5))), (⟨r4.Neg, r4.Num, r4.Den⟩ : GRat)⟩ : GMove)]).length * 72 ≤ 140737488355328) ∧
                          rng (x5 + 1) ∧
                          next4 ((x5 + 1), (x6 ++ [(⟨x, (bits .or .i64 x (1 * 2 ^ (Int.toNat x5))), (⟨r4.Neg, r4.Num, r4.Den⟩ : GRat)⟩ : GMove)])))
                          (rng (x5 + 1) ∧
                          next4 ((x5 + 1), x6)))
                      (rng (x + 1) ∧
                      next1 ((x + 1), (x1 ++ [r]), x6)))))
            (Q (⟨(1 * 2 ^ (Int.toNat (fail.length : Int))), 0, x2, x1⟩ : GChain) none))))
def product_Down_W (dist : List GRat) (f : GFormula) (Q : GRat → Option Int → Prop) : Prop :=
  product_components_W dist fun r r1 =>
  condW (Option.isSome r1)
    (Q (⟨false, [], []⟩ : GRat) r1)
    (formula_Check_W f fun e =>
    condW (Option.isSome e)
      (Q (⟨false, [], []⟩ : GRat) e)
      (condW (f.Vars != r)
        (Q (⟨false, [], []⟩ : GRat) (some 11))
        (loopW (σ := Int × GRat) (0, (⟨false, [], []⟩ : GRat)) fun ⟨x, x1⟩ next1 =>
          condW (decide (x < (dist.length : Int)))
            (((0 : Int) ≤ x ∧ x < (dist.length : Int)) ∧
            formula_Value_W f x fun r2 r3 =>
            condW (Option.isSome r3)
              (Q (⟨false, [], []⟩ : GRat) r3)
              (condW r2
                (rational_Add_W x1 (at' dist x) fun r4 =>
                rng (x + 1) ∧
                next1 ((x + 1), r4))
                (rng (x + 1) ∧
                next1 ((x + 1), x1))))
            (Q x1 none))))
end Go.Gg
