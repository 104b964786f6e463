/- Formulas of functions. Conditions: none. -/
import Derived.Test.YtonbnfgknijpoaaGgU
import Derived.Test.YtonbnfgknijpoaaWA
namespace Go.Gg
def rational_form_W (neg : Bool) (num : List Int) (den : List Int) (Q : GRat → Prop) : Prop :=
  natural_Bits_W num fun r =>
  condW (r == 0)
    (Q (⟨false, [], []⟩ : GRat))
    (natural_Gcd_W num den fun g2 =>
    natural_Div_W num g2 fun r1 _ _ =>
    natural_Div_W den g2 fun r4 _ _ =>
    Q (⟨neg, r1, r4⟩ : GRat))
def rational_one_W (Q : List Int → Prop) : Prop :=
  Q [1]
def rational_plain_W (a : List Int) (Q : Bool → Prop) : Prop :=
  condW (decide (0 < (a.length : Int)))
    (rng ((a.length : Int) - 1) ∧
    ((0 : Int) ≤ ((a.length : Int) - 1) ∧ ((a.length : Int) - 1) < (a.length : Int)) ∧
    Q ((at' a ((a.length : Int) - 1)) != 0))
    (Q false)
def rational_Valid_W (a : GRat) (Q : Bool → Prop) : Prop :=
  joinW (α := Bool) (fun next1 =>
    condW ((a.Num.length : Int) == 0)
      (next1 ((a.Den.length : Int) == 0))
      (next1 false))
    fun x =>
    condW x
      (Q (!a.Neg))
      (rational_plain_W a.Num fun r =>
      condW r
        (rational_plain_W a.Den fun r1 =>
        condW r1
          (natural_Gcd_W a.Num a.Den fun r2 =>
          rational_one_W fun r3 =>
          natural_Cmp_W r2 r3 fun r4 =>
          Q (r4 == 0))
          (Q false))
        (Q false))
def rational_parts_W (a : GRat) (Q : Bool → List Int → List Int → Prop) : Prop :=
  joinW (α := Bool) (fun next1 =>
    rational_Valid_W a fun r1 =>
    condW (!r1)
      (next1 true)
      (next1 ((a.Num.length : Int) == 0)))
    fun x =>
    condW x
      (rational_one_W fun r =>
      Q false [] r)
      (Q a.Neg a.Num a.Den)
def rational_Add_W (a : GRat) (b : GRat) (Q : GRat → Prop) : Prop :=
  rational_parts_W a fun r r1 r2 =>
  rational_parts_W b fun r3 r4 r5 =>
  natural_Mul_W r1 r5 fun p =>
  natural_Mul_W r4 r2 fun q =>
  natural_Mul_W r2 r5 fun den =>
  condW (r == r3)
    (natural_Add_W p q fun r6 =>
    rational_form_W r r6 den fun r7 =>
    Q r7)
    (natural_Cmp_W p q fun r8 =>
    condW (decide (0 ≤ r8))
      (natural_Sub_W p q fun r9 _ =>
      rational_form_W r r9 den fun r11 =>
      Q r11)
      (natural_Sub_W q p fun r12 _ =>
      rational_form_W r3 r12 den fun r14 =>
      Q r14))
def rational_Sign_W (a : GRat) (Q : Int → Prop) : Prop :=
  rational_parts_W a fun r r1 _ =>
  condW ((r1.length : Int) == 0)
    (Q 0)
    (condW r
      (Q (-1))
      (Q 1))
def rational_Div_W (a : GRat) (b : GRat) (Q : GRat → Option Int → Prop) : Prop :=
  rational_parts_W a fun r r1 r2 =>
  rational_parts_W b fun r3 r4 r5 =>
  condW ((r4.length : Int) == 0)
    (Q (⟨false, [], []⟩ : GRat) (some 8))
    (natural_Mul_W r1 r5 fun r6 =>
    natural_Mul_W r2 r4 fun r7 =>
    rational_form_W (r != r3) r6 r7 fun r8 =>
    Q r8 none)
def rational_size_W (n : Int) (Q : List Int → Prop) : Prop :=
  condW (n == (-9223372036854775808))
    (Q [0, 2147483648])
    (rng (-n) ∧
    natural_Of_W (max n (-n)) fun r =>
    Q r)
def rational_Of_W (n : Int) (Q : GRat → Prop) : Prop :=
  rational_size_W n fun r =>
  rational_one_W fun r1 =>
  rational_form_W (decide (n < 0)) r r1 fun r2 =>
  Q r2
def rational_Mul_W (a : GRat) (b : GRat) (Q : GRat → Prop) : Prop :=
  rational_parts_W a fun r r1 r2 =>
  rational_parts_W b fun r3 r4 r5 =>
  natural_Mul_W r1 r4 fun r6 =>
  natural_Mul_W r2 r5 fun r7 =>
  rational_form_W (r != r3) r6 r7 fun r8 =>
  Q r8
def rational_Neg_W (a : GRat) (Q : GRat → Prop) : Prop :=
  rational_parts_W a fun r r1 r2 =>
  rational_form_W (!r) r1 r2 fun r3 =>
  Q r3
def rational_Sub_W (a : GRat) (b : GRat) (Q : GRat → Prop) : Prop :=
  detW (rational_Neg_W b) fun r =>
  detW (rational_Add_W a r) fun r1 =>
  Q r1
def base_Words_W (a : List Int) (b : List Int) (Q : Bool → Prop) : Prop :=
  condW ((a.length : Int) != (b.length : Int))
    (Q false)
    (loopW (σ := Int) 0 fun x next1 =>
      condW (decide (x < (a.length : Int)))
        (((0 : Int) ≤ x ∧ x < (a.length : Int)) ∧
        ((0 : Int) ≤ x ∧ x < (b.length : Int)) ∧
        condW ((at' a x) != (at' b x))
          (Q false)
          (rng (x + 1) ∧
          next1 (x + 1)))
        (Q true))
def base_Rat_W (a : GRat) (b : GRat) (Q : Bool → Prop) : Prop :=
  condW (a.Neg == b.Neg)
    (base_Words_W a.Num b.Num fun r =>
    condW r
      (base_Words_W a.Den b.Den fun r1 =>
      Q r1)
      (Q false))
    (Q false)
def base_Rats_W (a : List GRat) (b : List GRat) (Q : Bool → Prop) : Prop :=
  condW ((a.length : Int) != (b.length : Int))
    (Q false)
    (loopW (σ := Int) 0 fun x next1 =>
      condW (decide (x < (a.length : Int)))
        (((0 : Int) ≤ x ∧ x < (a.length : Int)) ∧
        ((0 : Int) ≤ x ∧ x < (b.length : Int)) ∧
        detW (base_Rat_W (at' a x) (at' b x)) fun r =>
        condW (!r)
          (Q false)
          (rng (x + 1) ∧
          next1 (x + 1)))
        (Q true))
def ref02_From_W (neg : Bool) (num : List Int) (den : List Int) (Q : GRat → Int → Prop) : Prop :=
  ref01_Bits_W den fun r =>
  condW (r == 0)
    (Q (⟨false, [], []⟩ : GRat) 8)
    (ref01_Bits_W num fun r1 =>
    condW (r1 == 0)
      (Q (⟨false, [], []⟩ : GRat) 0)
      (ref01_Gcd_W num den fun g2 =>
      ref01_Div_W num g2 fun r2 _ _ =>
      ref01_Div_W den g2 fun r5 _ _ =>
      Q (⟨neg, r2, r5⟩ : GRat) 0))
def ref02_size_W (n : Int) (Q : List Int → Prop) : Prop :=
  joinW (α := Int) (fun next1 =>
    condW (decide (n < 0))
      (setW (IntKind.wrap .u64 (0 - (IntKind.wrap .u64 n))) fun u1 =>
      next1 u1)
      (next1 (IntKind.wrap .u64 n)))
    fun u =>
    Q [(IntKind.wrap .u32 u), (IntKind.wrap .u32 (u / 2 ^ (Int.toNat 32)))]
def ref02_Make_W (n : Int) (d : Int) (Q : GRat → Int → Prop) : Prop :=
  ref02_size_W n fun r =>
  ref02_size_W d fun r1 =>
  ref02_From_W ((decide (n < 0)) != (decide (d < 0))) r r1 fun r2 r3 =>
  Q r2 r3
def ref02_Valid_W (a : GRat) (Q : Bool → Prop) : Prop :=
  joinW (α := Bool) (fun next1 =>
    condW ((a.Num.length : Int) == 0)
      (next1 true)
      (next1 ((a.Den.length : Int) == 0)))
    fun x =>
    condW x
      (condW ((a.Num.length : Int) == 0)
        (condW ((a.Den.length : Int) == 0)
          (Q (!a.Neg))
          (Q false))
        (Q false))
      (rng ((a.Num.length : Int) - 1) ∧
      ((0 : Int) ≤ ((a.Num.length : Int) - 1) ∧ ((a.Num.length : Int) - 1) < (a.Num.length : Int)) ∧
      condW ((at' a.Num ((a.Num.length : Int) - 1)) != 0)
        (rng ((a.Den.length : Int) - 1) ∧
        ((0 : Int) ≤ ((a.Den.length : Int) - 1) ∧ ((a.Den.length : Int) - 1) < (a.Den.length : Int)) ∧
        condW ((at' a.Den ((a.Den.length : Int) - 1)) != 0)
          (ref01_Gcd_W a.Num a.Den fun r =>
          ref01_Bits_W r fun r1 =>
          Q (r1 == 1))
          (Q false))
        (Q false))
def ref02_Parts_W (a : GRat) (Q : Bool → List Int → List Int → Prop) : Prop :=
  joinW (α := Bool) (fun next1 =>
    ref02_Valid_W a fun r =>
    condW (!r)
      (next1 true)
      (next1 ((a.Num.length : Int) == 0)))
    fun x =>
    condW x
      (Q false [] [1])
      (Q a.Neg a.Num a.Den)
def ref02_Add_W (a : GRat) (b : GRat) (Q : GRat → Prop) : Prop :=
  ref02_Parts_W a fun r r1 r2 =>
  ref02_Parts_W b fun r3 r4 r5 =>
  ref01_Mul_W r1 r5 fun x =>
  ref01_Mul_W r4 r2 fun y1 =>
  ref01_Mul_W r2 r5 fun den =>
  condW (r == r3)
    (ref01_Add_W x y1 fun r6 =>
    ref02_From_W r r6 den fun r7 _ =>
    Q r7)
    (joinW (α := Bool × (List Int) × (List Int)) (fun next1 =>
      ref01_Cmp_W x y1 fun r13 =>
      condW (decide (r13 < 0))
        (next1 (r3, y1, x))
        (next1 (r, x, y1)))
      fun ⟨s, x1, y2⟩ =>
      ref01_Sub_W x1 y2 fun r9 _ =>
      ref02_From_W s r9 den fun r11 _ =>
      Q r11)
def ref02_Sign_W (a : GRat) (Q : Int → Prop) : Prop :=
  ref02_Parts_W a fun r r1 _ =>
  condW ((r1.length : Int) == 0)
    (Q 0)
    (condW r
      (Q (-1))
      (Q 1))
def ref02_Div_W (a : GRat) (b : GRat) (Q : GRat → Int → Prop) : Prop :=
  ref02_Parts_W a fun r r1 r2 =>
  ref02_Parts_W b fun r3 r4 r5 =>
  ref01_Mul_W r1 r5 fun r6 =>
  ref01_Mul_W r2 r4 fun r7 =>
  ref02_From_W (r != r3) r6 r7 fun r8 r9 =>
  Q r8 r9
def ref02_Of_W (n : Int) (Q : GRat → Prop) : Prop :=
  ref02_Make_W n 1 fun r _ =>
  Q r
def ref02_Neg_W (a : GRat) (Q : GRat → Prop) : Prop :=
  ref02_Parts_W a fun r r1 r2 =>
  ref02_From_W (!r) r1 r2 fun r3 _ =>
  Q r3
def ref02_Sub_W (a : GRat) (b : GRat) (Q : GRat → Prop) : Prop :=
  detW (ref02_Neg_W b) fun r =>
  detW (ref02_Add_W a r) fun r1 =>
  Q r1
def ref02_Mul_W (a : GRat) (b : GRat) (Q : GRat → Prop) : Prop :=
  ref02_Parts_W a fun r r1 r2 =>
  ref02_Parts_W b fun r3 r4 r5 =>
  ref01_Mul_W r1 r4 fun r6 =>
  ref01_Mul_W r2 r5 fun r7 =>
  ref02_From_W (r != r3) r6 r7 fun r8 _ =>
  Q r8
def base_Num_W (err : Option Int) (Q : Int → Prop) : Prop :=
  condW (Option.isNone err)
    (Q 0)
    (condW (Option.isSome err)
      (Q (Option.getD err 0))
      (Q (-1)))
def rational_Prob_W (a : GRat) (Q : Bool → Prop) : Prop :=
  rational_Valid_W a fun r =>
  condW r
    (condW (!a.Neg)
      (natural_Cmp_W a.Num a.Den fun r1 =>
      Q (decide (r1 ≤ 0)))
      (Q false))
    (Q false)
def ref02_Cmp_W (a : GRat) (b : GRat) (Q : Int → Prop) : Prop :=
  ref02_Sub_W a b fun r =>
  ref02_Sign_W r fun r1 =>
  Q r1
def ref02_Prob_W (a : GRat) (Q : Bool → Prop) : Prop :=
  detW (ref02_Valid_W a) fun r =>
  condW r
    (detW (ref02_Sign_W a) fun r1 =>
    condW (decide (0 ≤ r1))
      (detW (ref02_Of_W 1) fun r2 =>
      detW (ref02_Cmp_W a r2) fun r3 =>
      Q (decide (r3 ≤ 0)))
      (Q false))
    (Q false)
def rational_Cmp_W (a : GRat) (b : GRat) (Q : Int → Prop) : Prop :=
  rational_Sub_W a b fun r =>
  rational_Sign_W r fun r1 =>
  Q r1
def base_Bools_W (a : List Bool) (b : List Bool) (Q : Bool → Prop) : Prop :=
  condW ((a.length : Int) != (b.length : Int))
    (Q false)
    (loopW (σ := Int) 0 fun x next1 =>
      condW (decide (x < (a.length : Int)))
        (((0 : Int) ≤ x ∧ x < (a.length : Int)) ∧
        ((0 : Int) ≤ x ∧ x < (b.length : Int)) ∧
        condW ((at' a x) != (at' b x))
          (Q false)
          (rng (x + 1) ∧
          next1 (x + 1)))
        (Q true))
def base_Chain_W (a : GChain) (b : GChain) (Q : Bool → Prop) : Prop :=
  condW (a.States != b.States)
    (Q false)
    (condW (a.Start != b.Start)
      (Q false)
      (base_Bools_W a.Down b.Down fun r =>
      condW (!r)
        (Q false)
        (condW ((a.Moves.length : Int) != (b.Moves.length : Int))
          (Q false)
          (loopW (σ := Int) 0 fun x next1 =>
            condW (decide (x < (a.Moves.length : Int)))
              (((0 : Int) ≤ x ∧ x < (a.Moves.length : Int)) ∧
              ((0 : Int) ≤ x ∧ x < (b.Moves.length : Int)) ∧
              condW ((at' a.Moves x).From != (at' b.Moves x).From)
                (Q false)
                (((0 : Int) ≤ x ∧ x < (a.Moves.length : Int)) ∧
                ((0 : Int) ≤ x ∧ x < (b.Moves.length : Int)) ∧
                condW ((at' a.Moves x).To != (at' b.Moves x).To)
                  (Q false)
                  (((0 : Int) ≤ x ∧ x < (a.Moves.length : Int)) ∧
                  ((0 : Int) ≤ x ∧ x < (b.Moves.length : Int)) ∧
                  detW (base_Rat_W ((at' a.Moves x).Rate) ((at' b.Moves x).Rate)) fun r1 =>
                  condW (!r1)
                    (Q false)
                    (rng (x + 1) ∧
                    next1 (x + 1)))))
              (Q true)))))
def base_Ints_W (a : List Int) (b : List Int) (Q : Bool → Prop) : Prop :=
  condW ((a.length : Int) != (b.length : Int))
    (Q false)
    (loopW (σ := Int) 0 fun x next1 =>
      condW (decide (x < (a.length : Int)))
        (((0 : Int) ≤ x ∧ x < (a.length : Int)) ∧
        ((0 : Int) ≤ x ∧ x < (b.length : Int)) ∧
        condW ((at' a x) != (at' b x))
          (Q false)
          (rng (x + 1) ∧
          next1 (x + 1)))
        (Q true))
def base_Formula_W (a : GFormula) (b : GFormula) (Q : Bool → Prop) : Prop :=
  condW (a.Vars != b.Vars)
    (Q false)
    (condW (a.Top != b.Top)
      (Q false)
      (condW ((a.Nodes.length : Int) != (b.Nodes.length : Int))
        (Q false)
        (loopW (σ := Int) 0 fun x next1 =>
          condW (decide (x < (a.Nodes.length : Int)))
            (((0 : Int) ≤ x ∧ x < (a.Nodes.length : Int)) ∧
            ((0 : Int) ≤ x ∧ x < (b.Nodes.length : Int)) ∧
            condW ((at' a.Nodes x).Kind != (at' b.Nodes x).Kind)
              (Q false)
              (((0 : Int) ≤ x ∧ x < (a.Nodes.length : Int)) ∧
              ((0 : Int) ≤ x ∧ x < (b.Nodes.length : Int)) ∧
              condW ((at' a.Nodes x).K != (at' b.Nodes x).K)
                (Q false)
                (((0 : Int) ≤ x ∧ x < (a.Nodes.length : Int)) ∧
                ((0 : Int) ≤ x ∧ x < (b.Nodes.length : Int)) ∧
                detW (base_Ints_W ((at' a.Nodes x).Args) ((at' b.Nodes x).Args)) fun r =>
                condW (!r)
                  (Q false)
                  (rng (x + 1) ∧
                  next1 (x + 1)))))
            (Q true))))
def base_Is_W (err : Option Int) (code : Int) (Q : Bool → Prop) : Prop :=
  condW (Option.isSome err)
    (Q ((Option.getD err 0) == code))
    (Q false)
def base_Clip_W (n : Int) (lo : Int) (hi : Int) (Q : Int → Prop) : Prop :=
  Q (max lo (min n hi))
end Go.Gg
