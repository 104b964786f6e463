/- Formulas of functions. Conditions: none. -/
import Derived.Test.YtonbnfgknijpoaaGgU
import Derived.Test.YtonbnfgknijpoaaWB
import Derived.Test.YtonbnfgknijpoaaWF
namespace Go.Gg
def ref50_rate_W (x : GRat) (Q : Bool → Prop) : Prop :=
  ref02_Valid_W x fun r =>
  condW r
    (ref02_Sign_W x fun r1 =>
    Q (decide (0 ≤ r1)))
    (Q false)
def ref50_Unavailable_W (fail : GRat) (repair : GRat) (Q : GRat → Int → Prop) : Prop :=
  joinW (α := Bool) (fun next1 =>
    ref50_rate_W fail fun r3 =>
    condW (!r3)
      (next1 true)
      (ref50_rate_W repair fun r4 =>
      next1 (!r4)))
    fun x =>
    condW x
      (Q (⟨false, [], []⟩ : GRat) 3)
      (detW (ref02_Add_W fail repair) fun r =>
      detW2 (ref02_Div_W fail r) fun r1 r2 =>
      Q r1 r2)
def ref50_Lists_W (fail : List GRat) (repair : List GRat) (Q : Int → Prop) : Prop :=
  condW ((fail.length : Int) != (repair.length : Int))
    (Q 11)
    (condW ((fail.length : Int) == 0)
      (Q 11)
      (condW (decide (8 < (fail.length : Int)))
        (Q 4)
        (loopW (σ := Int) 0 fun x next1 =>
          condW (decide (x < (fail.length : Int)))
            (((0 : Int) ≤ x ∧ x < (fail.length : Int)) ∧
            ref50_rate_W (at' fail x) fun r =>
            condW (!r)
              (Q 3)
              (((0 : Int) ≤ x ∧ x < (repair.length : Int)) ∧
              ref50_rate_W (at' repair x) fun r1 =>
              condW (!r1)
                (Q 3)
                (rng (x + 1) ∧
                next1 (x + 1))))
            (loopW (σ := Int) 0 fun x1 next2 =>
              condW (decide (x1 < (fail.length : Int)))
                (((0 : Int) ≤ x1 ∧ x1 < (fail.length : Int)) ∧
                ((0 : Int) ≤ x1 ∧ x1 < (repair.length : Int)) ∧
                detW2 (ref50_Unavailable_W (at' fail x1) (at' repair x1)) fun _ r3 =>
                condW (r3 != 0)
                  (Q r3)
                  (rng (x1 + 1) ∧
                  next2 (x1 + 1)))
                (Q 0)))))
def ref50_Stationary_W (fail : List GRat) (repair : List GRat) (Q : List GRat → Int → Prop) : Prop :=
  ref50_Lists_W fail repair fun e =>
  condW (e != 0)
    (Q [] e)
    ((((0 : Int) ≤ (fail.length : Int) ∧ (fail.length : Int) ≤ 64) ∧ rng (1 * 2 ^ (Int.toNat (fail.length : Int)))) ∧
    loopW (σ := Int × (List GRat)) (0, []) fun ⟨x, out⟩ next1 =>
      condW (decide (x < (1 * 2 ^ (Int.toNat (fail.length : Int)))))
        (ref02_Of_W 1 fun r =>
        loopW (σ := Int × GRat) (0, r) fun ⟨x1, x2⟩ next2 =>
          condW (decide (x1 < (fail.length : Int)))
            (((0 : Int) ≤ x1 ∧ x1 < (fail.length : Int)) ∧
            ((0 : Int) ≤ x1 ∧ x1 < (repair.length : Int)) ∧
            detW2 (ref50_Unavailable_W (at' fail x1) (at' repair x1)) fun r1 _ =>
            joinW (α := GRat) (fun next3 =>
              ((0 : Int) ≤ x1 ∧ x1 ≤ 64) ∧
              condW ((bits .and .i64 (x / 2 ^ (Int.toNat x1)) 1) == 0)
                (detW (ref02_Of_W 1) fun r4 =>
                detW (ref02_Sub_W r4 r1) fun r5 =>
                next3 r5)
                (next3 r1))
              fun x3 =>
              ref02_Mul_W x2 x3 fun r3 =>
              rng (x1 + 1) ∧
              next2 ((x1 + 1), r3))
            (((out ++ [x2]).length * 56 ≤ 140737488355328) ∧
            rng (x + 1) ∧
            next1 ((x + 1), (out ++ [x2]))))
        (Q out 0))
def ref50_Size_W (dist : List GRat) (Q : Int → Int → Prop) : Prop :=
  loopW (σ := Int) 1 fun n next1 =>
    condW (decide (n ≤ 8))
      ((((0 : Int) ≤ n ∧ n ≤ 64) ∧ rng (1 * 2 ^ (Int.toNat n))) ∧
      condW ((dist.length : Int) != (1 * 2 ^ (Int.toNat n)))
        (rng (n + 1) ∧
        next1 (n + 1))
        (loopW (σ := Int) 0 fun x next2 =>
          condW (decide (x < (dist.length : Int)))
            (((0 : Int) ≤ x ∧ x < (dist.length : Int)) ∧
            ref02_Valid_W (at' dist x) fun r =>
            condW (!r)
              (Q 0 3)
              (rng (x + 1) ∧
              next2 (x + 1)))
            (Q n 0)))
      (Q 0 11)
def ref50_Marginal_W (dist : List GRat) (i : Int) (Q : GRat → Int → Prop) : Prop :=
  ref50_Size_W dist fun r r1 =>
  condW (r1 != 0)
    (Q (⟨false, [], []⟩ : GRat) r1)
    (joinW (α := Bool) (fun next2 =>
      condW (decide (i < 0))
        (next2 true)
        (next2 (decide (r ≤ i))))
      fun x =>
      condW x
        (Q (⟨false, [], []⟩ : GRat) 10)
        (loopW (σ := Int × GRat) (0, (⟨false, [], []⟩ : GRat)) fun ⟨x1, x2⟩ next1 =>
          condW (decide (x1 < (dist.length : Int)))
            (((0 : Int) ≤ x1 ∧ x1 < (dist.length : Int)) ∧
            ((0 : Int) ≤ i ∧ i ≤ 64) ∧
            condW ((bits .and .i64 (x1 / 2 ^ (Int.toNat i)) 1) == 1)
              (ref02_Add_W x2 (at' dist x1) fun r2 =>
              rng (x1 + 1) ∧
              next1 ((x1 + 1), r2))
              (rng (x1 + 1) ∧
              next1 ((x1 + 1), x2)))
            (Q x2 0)))
def ref50_Down_W (dist : List GRat) (f : GFormula) (Q : GRat → Int → Prop) : Prop :=
  ref50_Size_W dist fun r r1 =>
  joinW (α := Int) (fun next2 =>
    condW (r1 == 0)
      (ref08_Check_W f fun e1 =>
      next2 e1)
      (next2 r1))
    fun e =>
    condW (e != 0)
      (Q (⟨false, [], []⟩ : GRat) e)
      (condW (f.Vars != r)
        (Q (⟨false, [], []⟩ : GRat) 11)
        (loopW (σ := Int × GRat) (0, (⟨false, [], []⟩ : GRat)) fun ⟨x, x1⟩ next1 =>
          condW (decide (x < (dist.length : Int)))
            (((0 : Int) ≤ x ∧ x < (dist.length : Int)) ∧
            ref08_Value_W f x fun r2 =>
            condW r2
              (ref02_Add_W x1 (at' dist x) fun r3 =>
              rng (x + 1) ∧
              next1 ((x + 1), r3))
              (rng (x + 1) ∧
              next1 ((x + 1), x1)))
            (Q x1 0)))
def ref50_Chain_W (fail : List GRat) (repair : List GRat) (f : GFormula) (Q : GChain → Int → Prop) : Prop :=
  ref50_Lists_W fail repair fun e =>
  condW (e != 0)
    (Q (⟨0, 0, [], []⟩ : GChain) e)
    (ref08_Check_W f fun e1 =>
    condW (e1 != 0)
      (Q (⟨0, 0, [], []⟩ : GChain) e1)
      (condW (f.Vars != (fail.length : Int))
        (Q (⟨0, 0, [], []⟩ : GChain) 11)
        ((((0 : Int) ≤ (fail.length : Int) ∧ (fail.length : Int) ≤ 64) ∧ rng (1 * 2 ^ (Int.toNat (fail.length : Int)))) ∧
        loopW (σ := Int × (List Bool) × (List GMove)) (0, [], []) fun ⟨x, x1, x2⟩ next1 =>
          condW (decide (x < (1 * 2 ^ (Int.toNat (fail.length : Int)))))
            (detW (ref08_Value_W f x) fun r =>
            ((x1 ++ [r]).length * 1 ≤ 140737488355328) ∧
            loopW (σ := Int × (List GMove)) (0, x2) fun ⟨x3, x4⟩ next2 =>
              condW (decide (x3 < (1 * 2 ^ (Int.toNat (fail.length : Int)))))
                (loopW (σ := Int × (List GMove)) (0, x4) fun ⟨x5, x6⟩ next3 =>
                  condW (decide (x5 < (fail.length : Int)))
                    (((0 : Int) ≤ x5 ∧ x5 < (fail.length : Int)) ∧
                    joinW (α := GRat) (fun next5 =>
                      ((0 : Int) ≤ x5 ∧ x5 ≤ 64) ∧
                      condW ((bits .and .i64 (x / 2 ^ (Int.toNat x5)) 1) == 1)
                        (((0 : Int) ≤ x5 ∧ x5 < (repair.length : Int)) ∧
                        next5 (at' repair x5))
                        (next5 (at' fail x5)))
                      fun x7 =>
                      joinW (α := Bool) (fun next4 =>
                        (((0 : Int) ≤ x5 ∧ x5 ≤ 64) ∧ rng (1 * 2 ^ (Int.toNat x5))) ∧
                        condW (x3 == (bits .xor .i64 x (1 * 2 ^ (Int.toNat x5))))
                          (ref02_Sign_W x7 fun r1 =>
                          next4 (decide (0 < r1)))
                          (next4 false))
                        fun x8 =>
                        condW x8
                          (((x6 ++ [(⟨x, x3, (⟨x7.Neg, x7.Num, x7.Den⟩ : GRat)⟩ : GMove)]).length * 72 ≤ 140737488355328) ∧
                          rng (x5 + 1) ∧
                          next3 ((x5 + 1), (x6 ++ [(⟨x, x3, (⟨x7.Neg, x7.Num, x7.Den⟩ : GRat)⟩ : GMove)])))
                          (rng (x5 + 1) ∧
                          next3 ((x5 + 1), x6)))
                    (rng (x3 + 1) ∧
                    next2 ((x3 + 1), x6)))
                (rng (x + 1) ∧
                next1 ((x + 1), (x1 ++ [r]), x4)))
            (Q (⟨(1 * 2 ^ (Int.toNat (fail.length : Int))), 0, x2, x1⟩ : GChain) 0))))
end Go.Gg
