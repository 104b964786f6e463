/- The formulas of the functions. Conditions: none. -/
import Derived.Test.YtonbnfgknijpoaaGgU
namespace Go.Gg
def str_633d862b : ByteArray := ⟨#[0, 1, 2, 2, 3, 3, 3, 3, 4, 4, 4, 4, 4, 4, 4, 4, 5, 5, 5, 5, 5, 5, 5, 5, 5, 5, 5, 5, 5, 5, 5, 5, 6, 6, 6, 6, 6, 6, 6, 6, 6, 6, 6, 6, 6, 6, 6, 6, 6, 6, 6, 6, 6, 6, 6, 6, 6, 6, 6, 6, 6, 6, 6, 6, 7, 7, 7, 7, 7, 7, 7, 7, 7, 7, 7, 7, 7, 7, 7, 7, 7, 7, 7, 7, 7, 7, 7, 7, 7, 7, 7, 7, 7, 7, 7, 7, 7, 7, 7, 7, 7, 7, 7, 7, 7, 7, 7, 7, 7, 7, 7, 7, 7, 7, 7, 7, 7, 7, 7, 7, 7, 7, 7, 7, 7, 7, 7, 7, 8, 8, 8, 8, 8, 8, 8, 8, 8, 8, 8, 8, 8, 8, 8, 8, 8, 8, 8, 8, 8, 8, 8, 8, 8, 8, 8, 8, 8, 8, 8, 8, 8, 8, 8, 8, 8, 8, 8, 8, 8, 8, 8, 8, 8, 8, 8, 8, 8, 8, 8, 8, 8, 8, 8, 8, 8, 8, 8, 8, 8, 8, 8, 8, 8, 8, 8, 8, 8, 8, 8, 8, 8, 8, 8, 8, 8, 8, 8, 8, 8, 8, 8, 8, 8, 8, 8, 8, 8, 8, 8, 8, 8, 8, 8, 8, 8, 8, 8, 8, 8, 8, 8, 8, 8, 8, 8, 8, 8, 8, 8, 8, 8, 8, 8, 8, 8, 8, 8, 8, 8, 8, 8, 8, 8, 8, 8, 8]⟩
def natural_trim_W (a : List Int) (Q : List Int → Prop) : Prop :=
  joinW (α := Int) (fun next1 =>
    loopW (σ := Int) (a.length : Int) fun n1 next2 =>
      condW (decide (0 < n1))
        (rng (n1 - 1) ∧
        ((0 : Int) ≤ (n1 - 1) ∧ (n1 - 1) < (a.length : Int)) ∧
        condW ((at' a (n1 - 1)) == 0)
          (rng (n1 - 1) ∧
          next2 (n1 - 1))
          (next1 n1))
        (next1 n1))
    fun n =>
    condW (n == 0)
      (Q [])
      (((0 : Int) ≤ 0 ∧ 0 ≤ n ∧ n ≤ (a.length : Int)) ∧
      (([] ++ (sub' a 0 n)).length * 4 ≤ 140737488355328) ∧
      Q ([] ++ (sub' a 0 n)))
def natural_Cmp_W (a : List Int) (b : List Int) (Q : Int → Prop) : Prop :=
  natural_trim_W a fun a1 =>
  natural_trim_W b fun b1 =>
  condW ((a1.length : Int) != (b1.length : Int))
    (condW (decide ((a1.length : Int) < (b1.length : Int)))
      (Q (-1))
      (Q 1))
    (rng ((a1.length : Int) - 1) ∧
    loopW (σ := Int) ((a1.length : Int) - 1) fun i next1 =>
      condW (decide (0 ≤ i))
        (((0 : Int) ≤ i ∧ i < (a1.length : Int)) ∧
        ((0 : Int) ≤ i ∧ i < (b1.length : Int)) ∧
        condW (decide ((at' a1 i) < (at' b1 i)))
          (Q (-1))
          (((0 : Int) ≤ i ∧ i < (a1.length : Int)) ∧
          ((0 : Int) ≤ i ∧ i < (b1.length : Int)) ∧
          condW (decide ((at' b1 i) < (at' a1 i)))
            (Q 1)
            (rng (i - 1) ∧
            next1 (i - 1))))
        (Q 0))
def natural_Of_W (n : Int) (Q : List Int → Prop) : Prop :=
  condW (decide (n ≤ 0))
    (Q [])
    (natural_trim_W [(IntKind.wrap .u32 n), (IntKind.wrap .u32 (n / 2 ^ (Int.toNat 32)))] fun r =>
    Q r)
def natural_small_W (a : List Int) (b : Int) (Q : List Int → Int → Prop) : Prop :=
  mkOk 4 (a.length : Int) (a.length : Int) ∧
  rng ((a.length : Int) - 1) ∧
  loopW (σ := Int × Int × (List Int)) (0, ((a.length : Int) - 1), (rep' (a.length : Int) 0)) fun ⟨rest, i, out⟩ next1 =>
    condW (decide (0 ≤ i))
      (((0 : Int) ≤ i ∧ i < (a.length : Int)) ∧
      setW (bits .or .u64 (IntKind.wrap .u64 (rest * 2 ^ (Int.toNat 32))) (IntKind.wrap .u64 (at' a i))) fun rest1 =>
      (IntKind.wrap .u64 b) ≠ 0 ∧
      ((0 : Int) ≤ i ∧ i < (out.length : Int)) ∧
      (IntKind.wrap .u64 b) ≠ 0 ∧
      rng (i - 1) ∧
      next1 ((Int.tmod rest1 (IntKind.wrap .u64 b)), (i - 1), (set' out i (IntKind.wrap .u32 (IntKind.wrap .u64 (Int.tdiv rest1 (IntKind.wrap .u64 b)))))))
      (natural_trim_W out fun r =>
      Q r (IntKind.wrap .u32 rest))
def math_bits_Len32_W (x : Int) (Q : Int → Prop) : Prop :=
  joinW (α := Int × Int) (fun next2 =>
    condW (decide (65536 ≤ x))
      (next2 ((x / 2 ^ (Int.toNat 16)), 16))
      (next2 (x, 0)))
    fun ⟨x1, n⟩ =>
    joinW (α := Int × Int) (fun next1 =>
      condW (decide (256 ≤ x1))
        (rng (n + 8) ∧
        next1 ((x1 / 2 ^ (Int.toNat 8)), (n + 8)))
        (next1 (x1, n)))
      fun ⟨x2, n1⟩ =>
      ((0 : Int) ≤ (IntKind.wrap .u8 x2) ∧ (IntKind.wrap .u8 x2) < (str_633d862b.size : Int)) ∧
      rng (n1 + (IntKind.wrap .i64 (byteAt str_633d862b (Int.toNat (IntKind.wrap .u8 x2))))) ∧
      setW (n1 + (IntKind.wrap .i64 (byteAt str_633d862b (Int.toNat (IntKind.wrap .u8 x2))))) fun n2 =>
      Q n2
def math_bits_LeadingZeros32_W (x : Int) (Q : Int → Prop) : Prop :=
  math_bits_Len32_W x fun r =>
  rng (32 - r) ∧
  Q (32 - r)
def natural_left_W (a : List Int) (n : Int) (Q : List Int → Prop) : Prop :=
  rng ((a.length : Int) + 1) ∧
  mkOk 4 ((a.length : Int) + 1) ((a.length : Int) + 1) ∧
  loopW (σ := Int × (List Int)) (0, (rep' ((a.length : Int) + 1) 0)) fun ⟨x, out⟩ next1 =>
    condW (decide (x < (a.length : Int)))
      (((0 : Int) ≤ x ∧ x < (a.length : Int)) ∧
      ((0 : Int) ≤ n ∧ n ≤ 64) ∧
      setW (IntKind.wrap .u64 ((IntKind.wrap .u64 (at' a x)) * 2 ^ (Int.toNat n))) fun y1 =>
      ((0 : Int) ≤ x ∧ x < (out.length : Int)) ∧
      ((0 : Int) ≤ x ∧ x < (out.length : Int)) ∧
      rng (x + 1) ∧
      ((0 : Int) ≤ (x + 1) ∧ (x + 1) < (out.length : Int)) ∧
      rng (x + 1) ∧
      next1 ((x + 1), (set' (set' out x (bits .or .u32 (at' out x) (IntKind.wrap .u32 y1))) (x + 1) (IntKind.wrap .u32 (y1 / 2 ^ (Int.toNat 32))))))
      (Q out)
def natural_word_W (a : List Int) (i : Int) (Q : Int → Prop) : Prop :=
  condW (decide (i < (a.length : Int)))
    (((0 : Int) ≤ i ∧ i < (a.length : Int)) ∧
    Q (IntKind.wrap .u64 (at' a i)))
    (Q 0)
def natural_take_W (u : List Int) (uo : Nat) (ul : Nat) (v : List Int) (n : Int) (Q : List Int → Bool → Prop) : Prop :=
  loopW (σ := Int × Int × Int × (List Int)) (0, 0, 0, u) fun ⟨carry, borrow, x, u1⟩ next1 =>
    condW (decide (x < (ul : Int)))
      (natural_word_W v x fun r =>
      setW (IntKind.wrap .u64 (carry + (IntKind.wrap .u64 (n * r)))) fun carry1 =>
      ((0 : Int) ≤ x ∧ x < (ul : Int)) ∧
      (Int.toNat ((uo : Int) + x)) < u1.length ∧
      setW (IntKind.wrap .u64 ((IntKind.wrap .u64 ((IntKind.wrap .u64 (at' u1 ((uo : Int) + x))) - (IntKind.wrap .u64 (IntKind.wrap .u32 carry1)))) - borrow)) fun d =>
      ((0 : Int) ≤ x ∧ x < (ul : Int)) ∧
      (Int.toNat ((uo : Int) + x)) < u1.length ∧
      rng (x + 1) ∧
      next1 ((carry1 / 2 ^ (Int.toNat 32)), (d / 2 ^ (Int.toNat 63)), (x + 1), (set' u1 ((uo : Int) + x) (IntKind.wrap .u32 d))))
      (Q u1 (borrow == 1))
def natural_give_W (u : List Int) (uo : Nat) (ul : Nat) (v : List Int) (Q : List Int → Prop) : Prop :=
  loopW (σ := Int × Int × (List Int)) (0, 0, u) fun ⟨carry, x, u1⟩ next1 =>
    condW (decide (x < (ul : Int)))
      (((0 : Int) ≤ x ∧ x < (ul : Int)) ∧
      (Int.toNat ((uo : Int) + x)) < u1.length ∧
      detW (natural_word_W v x) fun r =>
      ((0 : Int) ≤ x ∧ x < (ul : Int)) ∧
      (Int.toNat ((uo : Int) + x)) < u1.length ∧
      setW ((IntKind.wrap .u64 (carry + (IntKind.wrap .u64 ((IntKind.wrap .u64 (at' u1 ((uo : Int) + x))) + r)))) / 2 ^ (Int.toNat 32)) fun carry1 =>
      rng (x + 1) ∧
      next1 (carry1, (x + 1), (set' u1 ((uo : Int) + x) (IntKind.wrap .u32 (IntKind.wrap .u64 (carry + (IntKind.wrap .u64 ((IntKind.wrap .u64 (at' u1 ((uo : Int) + x))) + r))))))))
      (Q u1)
def natural_right_W (a : List Int) (n : Int) (Q : List Int → Prop) : Prop :=
  mkOk 4 (a.length : Int) (a.length : Int) ∧
  loopW (σ := Int × (List Int)) (0, (rep' (a.length : Int) 0)) fun ⟨x, out⟩ next1 =>
    condW (decide (x < (a.length : Int)))
      (natural_word_W a x fun r =>
      rng (x + 1) ∧
      natural_word_W a (x + 1) fun r1 =>
      ((0 : Int) ≤ n ∧ n ≤ 64) ∧
      ((0 : Int) ≤ x ∧ x < (out.length : Int)) ∧
      rng (x + 1) ∧
      next1 ((x + 1), (set' out x (IntKind.wrap .u32 ((bits .or .u64 r (IntKind.wrap .u64 (r1 * 2 ^ (Int.toNat 32)))) / 2 ^ (Int.toNat n))))))
      (Q out)
def natural_Div_W (a : List Int) (b : List Int) (Q : List Int → List Int → Option Int → Prop) : Prop :=
  natural_trim_W a fun a1 =>
  natural_trim_W b fun b1 =>
  condW ((b1.length : Int) == 0)
    (Q [] [] (some 8))
    (natural_Cmp_W a1 b1 fun r =>
    condW (decide (r < 0))
      (Q [] a1 none)
      (condW ((b1.length : Int) == 1)
        (((0 : Int) ≤ 0 ∧ 0 < (b1.length : Int)) ∧
        natural_small_W a1 (at' b1 0) fun r1 r2 =>
        natural_Of_W (IntKind.wrap .i64 r2) fun r3 =>
        Q r1 r3 none)
        (rng ((b1.length : Int) - 1) ∧
        ((0 : Int) ≤ ((b1.length : Int) - 1) ∧ ((b1.length : Int) - 1) < (b1.length : Int)) ∧
        math_bits_LeadingZeros32_W (at' b1 ((b1.length : Int) - 1)) fun n =>
        natural_left_W b1 n fun r4 =>
        ((0 : Int) ≤ 0 ∧ 0 ≤ (b1.length : Int) ∧ (b1.length : Int) ≤ (r4.length : Int)) ∧
        setW (sub' r4 0 (b1.length : Int)) fun v =>
        natural_left_W a1 n fun u =>
        rng ((v.length : Int) - 1) ∧
        ((0 : Int) ≤ ((v.length : Int) - 1) ∧ ((v.length : Int) - 1) < (v.length : Int)) ∧
        rng ((v.length : Int) - 2) ∧
        ((0 : Int) ≤ ((v.length : Int) - 2) ∧ ((v.length : Int) - 2) < (v.length : Int)) ∧
        rng ((u.length : Int) - (v.length : Int)) ∧
        mkOk 4 ((u.length : Int) - (v.length : Int)) ((u.length : Int) - (v.length : Int)) ∧
        rng (((Int.toNat ((u.length : Int) - (v.length : Int))) : Int) - 1) ∧
        setW (((Int.toNat ((u.length : Int) - (v.length : Int))) : Int) - 1) fun j =>
        loopW (σ := Int × (List Int) × (List Int)) (j, u, (rep' ((u.length : Int) - (v.length : Int)) 0)) fun ⟨j1, u1, q⟩ next1 =>
          condW (decide (0 ≤ j1))
            (rng (j1 + (v.length : Int)) ∧
            ((0 : Int) ≤ (j1 + (v.length : Int)) ∧ (j1 + (v.length : Int)) < (u1.length : Int)) ∧
            rng (j1 + (v.length : Int)) ∧
            rng ((j1 + (v.length : Int)) - 1) ∧
            ((0 : Int) ≤ ((j1 + (v.length : Int)) - 1) ∧ ((j1 + (v.length : Int)) - 1) < (u1.length : Int)) ∧
            (IntKind.wrap .u64 (at' v ((v.length : Int) - 1))) ≠ 0 ∧
            (IntKind.wrap .u64 (at' v ((v.length : Int) - 1))) ≠ 0 ∧
            joinW (α := Int) (fun next3 =>
              loopW (σ := Int × Int) ((IntKind.wrap .u64 (Int.tdiv (bits .or .u64 (IntKind.wrap .u64 ((IntKind.wrap .u64 (at' u1 (j1 + (v.length : Int)))) * 2 ^ (Int.toNat 32))) (IntKind.wrap .u64 (at' u1 ((j1 + (v.length : Int)) - 1)))) (IntKind.wrap .u64 (at' v ((v.length : Int) - 1))))), (Int.tmod (bits .or .u64 (IntKind.wrap .u64 ((IntKind.wrap .u64 (at' u1 (j1 + (v.length : Int)))) * 2 ^ (Int.toNat 32))) (IntKind.wrap .u64 (at' u1 ((j1 + (v.length : Int)) - 1)))) (IntKind.wrap .u64 (at' v ((v.length : Int) - 1))))) fun ⟨guess2, rest⟩ next4 =>
                joinW (α := Unit) (fun next5 =>
                  condW (decide (4294967296 ≤ guess2))
                    (next5 ())
                    (rng (j1 + (v.length : Int)) ∧
                    rng ((j1 + (v.length : Int)) - 2) ∧
                    ((0 : Int) ≤ ((j1 + (v.length : Int)) - 2) ∧ ((j1 + (v.length : Int)) - 2) < (u1.length : Int)) ∧
                    condW (decide ((bits .or .u64 (IntKind.wrap .u64 (rest * 2 ^ (Int.toNat 32))) (IntKind.wrap .u64 (at' u1 ((j1 + (v.length : Int)) - 2)))) < (IntKind.wrap .u64 (guess2 * (IntKind.wrap .u64 (at' v ((v.length : Int) - 2)))))))
                      (next5 ())
                      (next3 guess2)))
                  fun _ =>
                  setW (IntKind.wrap .u64 (rest + (IntKind.wrap .u64 (at' v ((v.length : Int) - 1))))) fun rest1 =>
                  condW (decide (4294967296 ≤ rest1))
                    (next3 (IntKind.wrap .u64 (guess2 - 1)))
                    (next4 ((IntKind.wrap .u64 (guess2 - 1)), rest1)))
              fun guess =>
              joinW (α := Int × (List Int)) (fun next2 =>
                rng (j1 + (v.length : Int)) ∧
                rng ((j1 + (v.length : Int)) + 1) ∧
                ((0 : Int) ≤ j1 ∧ j1 ≤ ((j1 + (v.length : Int)) + 1) ∧ ((j1 + (v.length : Int)) + 1) ≤ (u1.length : Int)) ∧
                natural_take_W u1 (0 + Int.toNat j1) (Int.toNat ((j1 + (v.length : Int)) + 1) - Int.toNat j1) v guess fun u3 r5 =>
                u3.length = u1.length ∧
                condW r5
                  (rng (j1 + (v.length : Int)) ∧
                  rng ((j1 + (v.length : Int)) + 1) ∧
                  ((0 : Int) ≤ j1 ∧ j1 ≤ ((j1 + (v.length : Int)) + 1) ∧ ((j1 + (v.length : Int)) + 1) ≤ (u1.length : Int)) ∧
                  natural_give_W u3 (0 + Int.toNat j1) (Int.toNat ((j1 + (v.length : Int)) + 1) - Int.toNat j1) v fun u4 =>
                  u4.length = u3.length ∧
                  next2 ((IntKind.wrap .u64 (guess - 1)), u4))
                  (next2 (guess, u3)))
                fun ⟨guess1, u2⟩ =>
                ((0 : Int) ≤ j1 ∧ j1 < (q.length : Int)) ∧
                rng (j1 - 1) ∧
                next1 ((j1 - 1), u2, (set' q j1 (IntKind.wrap .u32 guess1))))
            (natural_trim_W q fun q1 =>
            natural_right_W u1 n fun r6 =>
            natural_trim_W r6 fun r7 =>
            Q q1 r7 none))))
def natural_Gcd_W (a : List Int) (b : List Int) (Q : List Int → Prop) : Prop :=
  natural_trim_W a fun a1 =>
  natural_trim_W b fun b1 =>
  loopW (σ := (List Int) × (List Int)) (a1, b1) fun ⟨a2, b2⟩ next1 =>
    condW (decide (0 < (b2.length : Int)))
      (natural_Div_W a2 b2 fun r r1 r2 =>
      next1 (b2, r1))
      (Q a2)
def natural_Bits_W (a : List Int) (Q : Int → Prop) : Prop :=
  rng ((a.length : Int) - 1) ∧
  loopW (σ := Int) ((a.length : Int) - 1) fun i next1 =>
    condW (decide (0 ≤ i))
      (((0 : Int) ≤ i ∧ i < (a.length : Int)) ∧
      condW ((at' a i) != 0)
        (rng (32 * i) ∧
        ((0 : Int) ≤ i ∧ i < (a.length : Int)) ∧
        math_bits_Len32_W (at' a i) fun r =>
        rng ((32 * i) + r) ∧
        Q ((32 * i) + r))
        (rng (i - 1) ∧
        next1 (i - 1)))
      (Q 0)
def rational_form_W (neg : Bool) (num : List Int) (den : List Int) (Q : GRat → Prop) : Prop :=
  natural_Bits_W num fun r =>
  condW (r == 0)
    (Q (⟨false, [], []⟩ : GRat))
    (natural_Gcd_W num den fun g2 =>
    natural_Div_W num g2 fun r1 r2 r3 =>
    natural_Div_W den g2 fun r4 r5 r6 =>
    Q (⟨neg, r1, r4⟩ : GRat))
def rational_one_W (Q : List Int → Prop) : Prop :=
  Q [1]
def rational_plain_W (a : List Int) (Q : Bool → Prop) : Prop :=
  condW (decide (0 < (a.length : Int)))
    (rng ((a.length : Int) - 1) ∧
    ((0 : Int) ≤ ((a.length : Int) - 1) ∧ ((a.length : Int) - 1) < (a.length : Int)) ∧
    Q ((at' a ((a.length : Int) - 1)) != 0))
    (Q false)
def rational_Valid_W (a : GRat) (Q : Bool → Prop) : Prop :=
  joinW (α := Bool) (fun next1 =>
    condW ((a.Num.length : Int) == 0)
      (next1 ((a.Den.length : Int) == 0))
      (next1 false))
    fun x =>
    condW x
      (Q (!a.Neg))
      (rational_plain_W a.Num fun r =>
      condW r
        (rational_plain_W a.Den fun r1 =>
        condW r1
          (natural_Gcd_W a.Num a.Den fun r2 =>
          rational_one_W fun r3 =>
          natural_Cmp_W r2 r3 fun r4 =>
          Q (r4 == 0))
          (Q false))
        (Q false))
def rational_parts_W (a : GRat) (Q : Bool → List Int → List Int → Prop) : Prop :=
  joinW (α := Bool) (fun next1 =>
    rational_Valid_W a fun r1 =>
    condW (!r1)
      (next1 true)
      (next1 ((a.Num.length : Int) == 0)))
    fun x =>
    condW x
      (rational_one_W fun r =>
      Q false [] r)
      (Q a.Neg a.Num a.Den)
def natural_Mul_W (a : List Int) (b : List Int) (Q : List Int → Prop) : Prop :=
  rng ((a.length : Int) + (b.length : Int)) ∧
  mkOk 4 ((a.length : Int) + (b.length : Int)) ((a.length : Int) + (b.length : Int)) ∧
  loopW (σ := Int × (List Int)) (0, (rep' ((a.length : Int) + (b.length : Int)) 0)) fun ⟨x, out⟩ next1 =>
    condW (decide (x < (a.length : Int)))
      (((0 : Int) ≤ x ∧ x < (a.length : Int)) ∧
      loopW (σ := Int × Int × (List Int)) (0, 0, out) fun ⟨carry, x1, out1⟩ next2 =>
        condW (decide (x1 < (b.length : Int)))
          (((0 : Int) ≤ x1 ∧ x1 < (b.length : Int)) ∧
          rng (x + x1) ∧
          ((0 : Int) ≤ (x + x1) ∧ (x + x1) < (out1.length : Int)) ∧
          setW (IntKind.wrap .u64 (carry + (IntKind.wrap .u64 ((IntKind.wrap .u64 ((IntKind.wrap .u64 (at' a x)) * (IntKind.wrap .u64 (at' b x1)))) + (IntKind.wrap .u64 (at' out1 (x + x1))))))) fun carry1 =>
          rng (x + x1) ∧
          ((0 : Int) ≤ (x + x1) ∧ (x + x1) < (out1.length : Int)) ∧
          rng (x1 + 1) ∧
          next2 ((carry1 / 2 ^ (Int.toNat 32)), (x1 + 1), (set' out1 (x + x1) (IntKind.wrap .u32 carry1))))
          (rng (x + (b.length : Int)) ∧
          ((0 : Int) ≤ (x + (b.length : Int)) ∧ (x + (b.length : Int)) < (out1.length : Int)) ∧
          rng (x + 1) ∧
          next1 ((x + 1), (set' out1 (x + (b.length : Int)) (IntKind.wrap .u32 carry)))))
      (natural_trim_W out fun r =>
      Q r)
def natural_Add_W (a : List Int) (b : List Int) (Q : List Int → Prop) : Prop :=
  rng ((max (a.length : Int) (b.length : Int)) + 1) ∧
  mkOk 4 ((max (a.length : Int) (b.length : Int)) + 1) ((max (a.length : Int) (b.length : Int)) + 1) ∧
  loopW (σ := Int × Int × (List Int)) (0, 0, (rep' ((max (a.length : Int) (b.length : Int)) + 1) 0)) fun ⟨carry, x, out⟩ next1 =>
    condW (decide (x < ((Int.toNat ((max (a.length : Int) (b.length : Int)) + 1)) : Int)))
      (natural_word_W a x fun r =>
      natural_word_W b x fun r1 =>
      setW (IntKind.wrap .u64 (carry + (IntKind.wrap .u64 (r + r1)))) fun carry1 =>
      ((0 : Int) ≤ x ∧ x < (out.length : Int)) ∧
      rng (x + 1) ∧
      next1 ((carry1 / 2 ^ (Int.toNat 32)), (x + 1), (set' out x (IntKind.wrap .u32 carry1))))
      (natural_trim_W out fun r2 =>
      Q r2)
def natural_Sub_W (a : List Int) (b : List Int) (Q : List Int → Option Int → Prop) : Prop :=
  natural_Cmp_W a b fun r =>
  condW (decide (r < 0))
    (Q [] (some 3))
    (mkOk 4 (a.length : Int) (a.length : Int) ∧
    loopW (σ := Int × Int × (List Int)) (0, 0, (rep' (a.length : Int) 0)) fun ⟨borrow, x, out⟩ next1 =>
      condW (decide (x < ((Int.toNat (a.length : Int)) : Int)))
        (natural_word_W a x fun r1 =>
        natural_word_W b x fun r2 =>
        setW (IntKind.wrap .u64 ((IntKind.wrap .u64 (r1 - r2)) - borrow)) fun d =>
        ((0 : Int) ≤ x ∧ x < (out.length : Int)) ∧
        rng (x + 1) ∧
        next1 ((d / 2 ^ (Int.toNat 63)), (x + 1), (set' out x (IntKind.wrap .u32 d))))
        (natural_trim_W out fun r3 =>
        Q r3 none))
def rational_Add_W (a : GRat) (b : GRat) (Q : GRat → Prop) : Prop :=
  rational_parts_W a fun r r1 r2 =>
  rational_parts_W b fun r3 r4 r5 =>
  natural_Mul_W r1 r5 fun p =>
  natural_Mul_W r4 r2 fun q =>
  natural_Mul_W r2 r5 fun den =>
  condW (r == r3)
    (natural_Add_W p q fun r6 =>
    rational_form_W r r6 den fun r7 =>
    Q r7)
    (natural_Cmp_W p q fun r8 =>
    condW (decide (0 ≤ r8))
      (natural_Sub_W p q fun r9 r10 =>
      rational_form_W r r9 den fun r11 =>
      Q r11)
      (natural_Sub_W q p fun r12 r13 =>
      rational_form_W r3 r12 den fun r14 =>
      Q r14))
def rational_Sign_W (a : GRat) (Q : Int → Prop) : Prop :=
  rational_parts_W a fun r r1 r2 =>
  condW ((r1.length : Int) == 0)
    (Q 0)
    (condW r
      (Q (-1))
      (Q 1))
def product_rate_W (x : GRat) (Q : Bool → Prop) : Prop :=
  rational_Valid_W x fun r =>
  condW r
    (rational_Sign_W x fun r1 =>
    Q (decide (0 ≤ r1)))
    (Q false)
def rational_Div_W (a : GRat) (b : GRat) (Q : GRat → Option Int → Prop) : Prop :=
  rational_parts_W a fun r r1 r2 =>
  rational_parts_W b fun r3 r4 r5 =>
  condW ((r4.length : Int) == 0)
    (Q (⟨false, [], []⟩ : GRat) (some 8))
    (natural_Mul_W r1 r5 fun r6 =>
    natural_Mul_W r2 r4 fun r7 =>
    rational_form_W (r != r3) r6 r7 fun r8 =>
    Q r8 none)
def product_Unavailable_W (fail : GRat) (repair : GRat) (Q : GRat → Option Int → Prop) : Prop :=
  joinW (α := Bool) (fun next1 =>
    product_rate_W fail fun r3 =>
    condW (!r3)
      (next1 true)
      (product_rate_W repair fun r4 =>
      next1 (!r4)))
    fun x =>
    condW x
      (Q (⟨false, [], []⟩ : GRat) (some 3))
      (detW (rational_Add_W fail repair) fun r =>
      detW2 (rational_Div_W fail r) fun r1 r2 =>
      Q r1 r2)
def rational_size_W (n : Int) (Q : List Int → Prop) : Prop :=
  condW (n == (-9223372036854775808))
    (Q [0, 2147483648])
    (rng (-n) ∧
    natural_Of_W (max n (-n)) fun r =>
    Q r)
def rational_Of_W (n : Int) (Q : GRat → Prop) : Prop :=
  rational_size_W n fun r =>
  rational_one_W fun r1 =>
  rational_form_W (decide (n < 0)) r r1 fun r2 =>
  Q r2
def rational_Mul_W (a : GRat) (b : GRat) (Q : GRat → Prop) : Prop :=
  rational_parts_W a fun r r1 r2 =>
  rational_parts_W b fun r3 r4 r5 =>
  natural_Mul_W r1 r4 fun r6 =>
  natural_Mul_W r2 r5 fun r7 =>
  rational_form_W (r != r3) r6 r7 fun r8 =>
  Q r8
def rational_Neg_W (a : GRat) (Q : GRat → Prop) : Prop :=
  rational_parts_W a fun r r1 r2 =>
  rational_form_W (!r) r1 r2 fun r3 =>
  Q r3
def rational_Sub_W (a : GRat) (b : GRat) (Q : GRat → Prop) : Prop :=
  detW (rational_Neg_W b) fun r =>
  detW (rational_Add_W a r) fun r1 =>
  Q r1
def product_check_W (fail : List GRat) (repair : List GRat) (Q : Option Int → Prop) : Prop :=
  joinW (α := Bool) (fun next5 =>
    condW ((fail.length : Int) != (repair.length : Int))
      (next5 true)
      (next5 ((fail.length : Int) == 0)))
    fun x =>
    condW x
      (Q (some 11))
      (condW (decide (8 < (fail.length : Int)))
        (Q (some 4))
        (loopW (σ := Int) 0 fun x1 next1 =>
          condW (decide (x1 < (fail.length : Int)))
            (joinW (α := Bool) (fun next2 =>
              ((0 : Int) ≤ x1 ∧ x1 < (fail.length : Int)) ∧
              product_rate_W (at' fail x1) fun r =>
              condW (!r)
                (next2 true)
                (((0 : Int) ≤ x1 ∧ x1 < (repair.length : Int)) ∧
                product_rate_W (at' repair x1) fun r1 =>
                next2 (!r1)))
              fun x2 =>
              condW x2
                (Q (some 3))
                (rng (x1 + 1) ∧
                next1 (x1 + 1)))
            (loopW (σ := Int) 0 fun x3 next3 =>
              condW (decide (x3 < (fail.length : Int)))
                (joinW (α := Bool) (fun next4 =>
                  ((0 : Int) ≤ x3 ∧ x3 < (fail.length : Int)) ∧
                  rational_Sign_W (at' fail x3) fun r2 =>
                  condW (r2 == 0)
                    (((0 : Int) ≤ x3 ∧ x3 < (repair.length : Int)) ∧
                    rational_Sign_W (at' repair x3) fun r3 =>
                    next4 (r3 == 0))
                    (next4 false))
                  fun x4 =>
                  condW x4
                    (Q (some 8))
                    (rng (x3 + 1) ∧
                    next3 (x3 + 1)))
                (Q none))))
def product_Stationary_W (fail : List GRat) (repair : List GRat) (Q : List GRat → Option Int → Prop) : Prop :=
  product_check_W fail repair fun e =>
  condW (Option.isSome e)
    (Q [] e)
    (rational_Of_W 1 fun r =>
    loopW (σ := (List GRat) × Int) ([r], 0) fun ⟨out, x⟩ next1 =>
      condW (decide (x < (fail.length : Int)))
        (((0 : Int) ≤ x ∧ x < (fail.length : Int)) ∧
        ((0 : Int) ≤ x ∧ x < (repair.length : Int)) ∧
        detW2 (product_Unavailable_W (at' fail x) (at' repair x)) fun r1 r2 =>
        condW (Option.isSome r2)
          (Q [] r2)
          (loopW (σ := Int × (List GRat) × (List GRat)) (0, [], []) fun ⟨x1, failed, works⟩ next2 =>
            condW (decide (x1 < (out.length : Int)))
              (((0 : Int) ≤ x1 ∧ x1 < (out.length : Int)) ∧
              rational_Mul_W (at' out x1) r1 fun r3 =>
              ((failed ++ [r3]).length * 56 ≤ 140737488355328) ∧
              detW (rational_Of_W 1) fun r4 =>
              detW (rational_Sub_W r4 r1) fun r5 =>
              detW (rational_Mul_W (at' out x1) r5) fun r6 =>
              ((works ++ [r6]).length * 56 ≤ 140737488355328) ∧
              rng (x1 + 1) ∧
              next2 ((x1 + 1), (failed ++ [r3]), (works ++ [r6])))
              (((works ++ failed).length * 56 ≤ 140737488355328) ∧
              rng (x + 1) ∧
              next1 ((works ++ failed), (x + 1)))))
        (Q out none))
def base_Words_W (a : List Int) (b : List Int) (Q : Bool → Prop) : Prop :=
  condW ((a.length : Int) != (b.length : Int))
    (Q false)
    (loopW (σ := Int) 0 fun x next1 =>
      condW (decide (x < (a.length : Int)))
        (((0 : Int) ≤ x ∧ x < (a.length : Int)) ∧
        ((0 : Int) ≤ x ∧ x < (b.length : Int)) ∧
        condW ((at' a x) != (at' b x))
          (Q false)
          (rng (x + 1) ∧
          next1 (x + 1)))
        (Q true))
def base_Rat_W (a : GRat) (b : GRat) (Q : Bool → Prop) : Prop :=
  condW (a.Neg == b.Neg)
    (base_Words_W a.Num b.Num fun r =>
    condW r
      (base_Words_W a.Den b.Den fun r1 =>
      Q r1)
      (Q false))
    (Q false)
def base_Rats_W (a : List GRat) (b : List GRat) (Q : Bool → Prop) : Prop :=
  condW ((a.length : Int) != (b.length : Int))
    (Q false)
    (loopW (σ := Int) 0 fun x next1 =>
      condW (decide (x < (a.length : Int)))
        (((0 : Int) ≤ x ∧ x < (a.length : Int)) ∧
        ((0 : Int) ≤ x ∧ x < (b.length : Int)) ∧
        detW (base_Rat_W (at' a x) (at' b x)) fun r =>
        condW (!r)
          (Q false)
          (rng (x + 1) ∧
          next1 (x + 1)))
        (Q true))
def ref01_Bits_W (a : List Int) (Q : Int → Prop) : Prop :=
  loopW (σ := Int × Int) (0, 0) fun ⟨n, x⟩ next1 =>
    condW (decide (x < (a.length : Int)))
      (((0 : Int) ≤ x ∧ x < (a.length : Int)) ∧
      loopW (σ := Int × Int) (n, 0) fun ⟨n1, x1⟩ next2 =>
        condW (decide (x1 < 32))
          (((0 : Int) ≤ x1 ∧ x1 ≤ 32) ∧
          condW ((bits .and .u32 ((at' a x) / 2 ^ (Int.toNat x1)) 1) == 1)
            (rng (32 * x) ∧
            rng ((32 * x) + x1) ∧
            rng (((32 * x) + x1) + 1) ∧
            rng (x1 + 1) ∧
            next2 ((((32 * x) + x1) + 1), (x1 + 1)))
            (rng (x1 + 1) ∧
            next2 (n1, (x1 + 1))))
          (rng (x + 1) ∧
          next1 (n1, (x + 1))))
      (Q n)
def ref01_Trim_W (a : List Int) (Q : List Int → Prop) : Prop :=
  joinW (α := Int) (fun next1 =>
    loopW (σ := Int) (a.length : Int) fun n1 next2 =>
      condW (decide (0 < n1))
        (rng (n1 - 1) ∧
        ((0 : Int) ≤ (n1 - 1) ∧ (n1 - 1) < (a.length : Int)) ∧
        condW ((at' a (n1 - 1)) == 0)
          (rng (n1 - 1) ∧
          next2 (n1 - 1))
          (next1 n1))
        (next1 n1))
    fun n =>
    ((0 : Int) ≤ 0 ∧ 0 ≤ n ∧ n ≤ (a.length : Int)) ∧
    (([] ++ (sub' a 0 n)).length * 4 ≤ 140737488355328) ∧
    Q ([] ++ (sub' a 0 n))
def ref01_word_W (a : List Int) (i : Int) (Q : Int → Prop) : Prop :=
  condW (decide (i < (a.length : Int)))
    (((0 : Int) ≤ i ∧ i < (a.length : Int)) ∧
    Q (IntKind.wrap .u64 (at' a i)))
    (Q 0)
def ref01_Mul_W (a : List Int) (b : List Int) (Q : List Int → Prop) : Prop :=
  rng ((a.length : Int) + (b.length : Int)) ∧
  rng (((a.length : Int) + (b.length : Int)) + 1) ∧
  mkOk 4 (((a.length : Int) + (b.length : Int)) + 1) (((a.length : Int) + (b.length : Int)) + 1) ∧
  loopW (σ := Int × (List Int)) (0, (rep' (((a.length : Int) + (b.length : Int)) + 1) 0)) fun ⟨x, out⟩ next1 =>
    condW (decide (x < (a.length : Int)))
      (((0 : Int) ≤ x ∧ x < (a.length : Int)) ∧
      rng ((b.length : Int) + 1) ∧
      loopW (σ := Int × Int × (List Int)) (0, 0, out) fun ⟨carry, x1, out1⟩ next2 =>
        condW (decide (x1 < ((b.length : Int) + 1)))
          (detW (ref01_word_W b x1) fun r =>
          rng (x + x1) ∧
          ((0 : Int) ≤ (x + x1) ∧ (x + x1) < (out1.length : Int)) ∧
          rng (x + x1) ∧
          ((0 : Int) ≤ (x + x1) ∧ (x + x1) < (out1.length : Int)) ∧
          setW ((IntKind.wrap .u64 ((IntKind.wrap .u64 ((IntKind.wrap .u64 ((IntKind.wrap .u64 (at' a x)) * r)) + (IntKind.wrap .u64 (at' out1 (x + x1))))) + carry)) / 2 ^ (Int.toNat 32)) fun carry1 =>
          rng (x1 + 1) ∧
          next2 (carry1, (x1 + 1), (set' out1 (x + x1) (IntKind.wrap .u32 (IntKind.wrap .u64 ((IntKind.wrap .u64 ((IntKind.wrap .u64 ((IntKind.wrap .u64 (at' a x)) * r)) + (IntKind.wrap .u64 (at' out1 (x + x1))))) + carry))))))
          (rng (x + 1) ∧
          next1 ((x + 1), out1)))
      (ref01_Trim_W out fun r1 =>
      Q r1)
def ref01_Cmp_W (a : List Int) (b : List Int) (Q : Int → Prop) : Prop :=
  rng ((max (a.length : Int) (b.length : Int)) - 1) ∧
  setW ((max (a.length : Int) (b.length : Int)) - 1) fun i =>
  loopW (σ := Int) i fun i1 next1 =>
    condW (decide (0 ≤ i1))
      (ref01_word_W a i1 fun r =>
      ref01_word_W b i1 fun r1 =>
      condW (decide (r < r1))
        (Q (-1))
        (ref01_word_W a i1 fun r2 =>
        ref01_word_W b i1 fun r3 =>
        condW (decide (r3 < r2))
          (Q 1)
          (rng (i1 - 1) ∧
          next1 (i1 - 1))))
      (Q 0)
def ref01_Sub_W (a : List Int) (b : List Int) (Q : List Int → Int → Prop) : Prop :=
  ref01_Cmp_W a b fun r =>
  condW (decide (r < 0))
    (Q [] 3)
    (loopW (σ := Int × Int × (List Int)) (0, 0, []) fun ⟨borrow, x, out⟩ next1 =>
      condW (decide (x < (a.length : Int)))
        (ref01_word_W a x fun r1 =>
        ref01_word_W b x fun r2 =>
        setW (IntKind.wrap .u64 ((IntKind.wrap .u64 (r1 - r2)) - borrow)) fun s =>
        ((out ++ [(IntKind.wrap .u32 s)]).length * 4 ≤ 140737488355328) ∧
        rng (x + 1) ∧
        next1 ((s / 2 ^ (Int.toNat 63)), (x + 1), (out ++ [(IntKind.wrap .u32 s)])))
        (ref01_Trim_W out fun r3 =>
        Q r3 0))
def ref01_up_W (a : List Int) (s : Int) (Q : List Int → Prop) : Prop :=
  loopW (σ := Int × Int × (List Int)) (0, 0, []) fun ⟨carry, x, out⟩ next1 =>
    condW (decide (x < (a.length : Int)))
      (((0 : Int) ≤ x ∧ x < (a.length : Int)) ∧
      ((0 : Int) ≤ s ∧ s ≤ 64) ∧
      setW (bits .or .u64 carry (IntKind.wrap .u64 ((IntKind.wrap .u64 (at' a x)) * 2 ^ (Int.toNat s)))) fun carry1 =>
      ((out ++ [(IntKind.wrap .u32 carry1)]).length * 4 ≤ 140737488355328) ∧
      rng (x + 1) ∧
      next1 ((carry1 / 2 ^ (Int.toNat 32)), (x + 1), (out ++ [(IntKind.wrap .u32 carry1)])))
      (((out ++ [(IntKind.wrap .u32 carry)]).length * 4 ≤ 140737488355328) ∧
      ref01_Trim_W (out ++ [(IntKind.wrap .u32 carry)]) fun r =>
      Q r)
def ref01_down_W (a : List Int) (s : Int) (Q : List Int → Prop) : Prop :=
  loopW (σ := Int × (List Int)) (0, []) fun ⟨x, out⟩ next1 =>
    condW (decide (x < (a.length : Int)))
      (ref01_word_W a x fun r =>
      rng (x + 1) ∧
      ref01_word_W a (x + 1) fun r1 =>
      ((0 : Int) ≤ s ∧ s ≤ 64) ∧
      ((out ++ [(IntKind.wrap .u32 ((bits .or .u64 r (IntKind.wrap .u64 (r1 * 2 ^ (Int.toNat 32)))) / 2 ^ (Int.toNat s)))]).length * 4 ≤ 140737488355328) ∧
      rng (x + 1) ∧
      next1 ((x + 1), (out ++ [(IntKind.wrap .u32 ((bits .or .u64 r (IntKind.wrap .u64 (r1 * 2 ^ (Int.toNat 32)))) / 2 ^ (Int.toNat s)))])))
      (ref01_Trim_W out fun r2 =>
      Q r2)
def ref01_Div_W (a : List Int) (b : List Int) (Q : List Int → List Int → Int → Prop) : Prop :=
  ref01_Trim_W b fun b1 =>
  condW ((b1.length : Int) == 0)
    (Q [] [] 8)
    (loopW (σ := Int) 0 fun s next1 =>
      rng ((b1.length : Int) - 1) ∧
      ((0 : Int) ≤ ((b1.length : Int) - 1) ∧ ((b1.length : Int) - 1) < (b1.length : Int)) ∧
      ((0 : Int) ≤ s ∧ s ≤ 32) ∧
      condW ((bits .and .u32 (IntKind.wrap .u32 ((at' b1 ((b1.length : Int) - 1)) * 2 ^ (Int.toNat s))) 2147483648) == 0)
        (rng (s + 1) ∧
        next1 (s + 1))
        (ref01_up_W a s fun a1 =>
        ref01_up_W b1 s fun b2 =>
        mkOk 4 (a1.length : Int) (a1.length : Int) ∧
        rng ((a1.length : Int) - (b1.length : Int)) ∧
        rng (((a1.length : Int) - (b1.length : Int)) + 1) ∧
        ((0 : Int) ≤ (max 0 (((a1.length : Int) - (b1.length : Int)) + 1)) ∧ (max 0 (((a1.length : Int) - (b1.length : Int)) + 1)) ≤ (a1.length : Int) ∧ (a1.length : Int) ≤ (a1.length : Int)) ∧
        (([] ++ (sub' a1 (max 0 (((a1.length : Int) - (b1.length : Int)) + 1)) (a1.length : Int))).length * 4 ≤ 140737488355328) ∧
        rng ((a1.length : Int) - (b1.length : Int)) ∧
        loopW (σ := (List Int) × Int × (List Int)) (([] ++ (sub' a1 (max 0 (((a1.length : Int) - (b1.length : Int)) + 1)) (a1.length : Int))), ((a1.length : Int) - (b1.length : Int)), (rep' (a1.length : Int) 0)) fun ⟨r, i, q⟩ next2 =>
          condW (decide (0 ≤ i))
            (((0 : Int) ≤ i ∧ i < (a1.length : Int)) ∧
            (([(at' a1 i)] ++ r).length * 4 ≤ 140737488355328) ∧
            ref01_Trim_W ([(at' a1 i)] ++ r) fun r1 =>
            ref01_word_W r1 (b1.length : Int) fun r2 =>
            rng ((b1.length : Int) - 1) ∧
            ref01_word_W r1 ((b1.length : Int) - 1) fun r3 =>
            rng ((b1.length : Int) - 1) ∧
            ref01_word_W b2 ((b1.length : Int) - 1) fun r4 =>
            r4 ≠ 0 ∧
            setW (min (IntKind.wrap .u64 (Int.tdiv (bits .or .u64 (IntKind.wrap .u64 (r2 * 2 ^ (Int.toNat 32))) r3) r4)) 4294967295) fun guess =>
            ref01_Mul_W b2 [(IntKind.wrap .u32 guess)] fun p =>
            loopW (σ := Int × (List Int)) (guess, p) fun ⟨guess1, p1⟩ next3 =>
              ref01_Cmp_W p1 r1 fun r5 =>
              condW (decide (0 < r5))
                (ref01_Sub_W p1 b2 fun r6 r7 =>
                next3 ((IntKind.wrap .u64 (guess1 - 1)), r6))
                (ref01_Sub_W r1 p1 fun r8 r9 =>
                ((0 : Int) ≤ i ∧ i < (q.length : Int)) ∧
                rng (i - 1) ∧
                next2 (r8, (i - 1), (set' q i (IntKind.wrap .u32 guess1)))))
            (ref01_Trim_W q fun r10 =>
            ref01_down_W r s fun r11 =>
            Q r10 r11 0)))
def ref01_Gcd_W (a : List Int) (b : List Int) (Q : List Int → Prop) : Prop :=
  ref01_Trim_W a fun a1 =>
  ref01_Trim_W b fun b1 =>
  loopW (σ := (List Int) × (List Int)) (a1, b1) fun ⟨a2, b2⟩ next1 =>
    condW (decide (0 < (b2.length : Int)))
      (ref01_Div_W a2 b2 fun r r1 r2 =>
      next1 (b2, r1))
      (Q a2)
def ref02_From_W (neg : Bool) (num : List Int) (den : List Int) (Q : GRat → Int → Prop) : Prop :=
  ref01_Bits_W den fun r =>
  condW (r == 0)
    (Q (⟨false, [], []⟩ : GRat) 8)
    (ref01_Bits_W num fun r1 =>
    condW (r1 == 0)
      (Q (⟨false, [], []⟩ : GRat) 0)
      (ref01_Gcd_W num den fun g2 =>
      ref01_Div_W num g2 fun r2 r3 r4 =>
      ref01_Div_W den g2 fun r5 r6 r7 =>
      Q (⟨neg, r2, r5⟩ : GRat) 0))
def ref02_size_W (n : Int) (Q : List Int → Prop) : Prop :=
  joinW (α := Int) (fun next1 =>
    condW (decide (n < 0))
      (setW (IntKind.wrap .u64 (0 - (IntKind.wrap .u64 n))) fun u1 =>
      next1 u1)
      (next1 (IntKind.wrap .u64 n)))
    fun u =>
    Q [(IntKind.wrap .u32 u), (IntKind.wrap .u32 (u / 2 ^ (Int.toNat 32)))]
def ref02_Make_W (n : Int) (d : Int) (Q : GRat → Int → Prop) : Prop :=
  ref02_size_W n fun r =>
  ref02_size_W d fun r1 =>
  ref02_From_W ((decide (n < 0)) != (decide (d < 0))) r r1 fun r2 r3 =>
  Q r2 r3
def law50_part_W (n : Int) (d : Int) (Q : GRat → Prop) : Prop :=
  ref02_Make_W n d fun r r1 =>
  Q r
def law50_awake_W (Q : Bool → Prop) : Prop :=
  law50_part_W 1 1 fun r =>
  law50_part_W 1 1 fun r1 =>
  law50_part_W 3 1 fun r2 =>
  law50_part_W 1 1 fun r3 =>
  product_Stationary_W [r, r1] [r2, r3] fun r4 r5 =>
  condW (Option.isNone r5)
    (law50_part_W 3 8 fun r6 =>
    law50_part_W 1 8 fun r7 =>
    law50_part_W 3 8 fun r8 =>
    law50_part_W 1 8 fun r9 =>
    base_Rats_W r4 [r6, r7, r8, r9] fun r10 =>
    Q r10)
    (Q false)
def law49_Brief_W (x : GRat) (others : Int) (Q : Bool → Prop) : Prop :=
  condW (decide (others ≤ 64))
    (condW (decide ((x.Num.length : Int) ≤ 2))
      (Q (decide ((x.Den.length : Int) ≤ 2)))
      (Q false))
    (condW (decide ((x.Num.length : Int) ≤ 1))
      (condW ((x.Den.length : Int) == 0)
        (Q true)
        (condW ((x.Den.length : Int) == 1)
          (((0 : Int) ≤ 0 ∧ 0 < (x.Den.length : Int)) ∧
          Q (decide ((at' x.Den 0) < 1024)))
          (Q false)))
      (Q false))
def law50_short_W (l : List GRat) (most : Int) (Q : Bool → Prop) : Prop :=
  loopW (σ := Int) 0 fun x next1 =>
    condW (decide (x < (l.length : Int)))
      (((0 : Int) ≤ x ∧ x < (l.length : Int)) ∧
      law49_Brief_W (at' l x) (l.length : Int) fun r =>
      condW (!r)
        (Q false)
        (rng (x + 1) ∧
        next1 (x + 1)))
      (Q (decide ((l.length : Int) ≤ most)))
def ref02_Valid_W (a : GRat) (Q : Bool → Prop) : Prop :=
  joinW (α := Bool) (fun next1 =>
    condW ((a.Num.length : Int) == 0)
      (next1 true)
      (next1 ((a.Den.length : Int) == 0)))
    fun x =>
    condW x
      (condW ((a.Num.length : Int) == 0)
        (condW ((a.Den.length : Int) == 0)
          (Q (!a.Neg))
          (Q false))
        (Q false))
      (rng ((a.Num.length : Int) - 1) ∧
      ((0 : Int) ≤ ((a.Num.length : Int) - 1) ∧ ((a.Num.length : Int) - 1) < (a.Num.length : Int)) ∧
      condW ((at' a.Num ((a.Num.length : Int) - 1)) != 0)
        (rng ((a.Den.length : Int) - 1) ∧
        ((0 : Int) ≤ ((a.Den.length : Int) - 1) ∧ ((a.Den.length : Int) - 1) < (a.Den.length : Int)) ∧
        condW ((at' a.Den ((a.Den.length : Int) - 1)) != 0)
          (ref01_Gcd_W a.Num a.Den fun r =>
          ref01_Bits_W r fun r1 =>
          Q (r1 == 1))
          (Q false))
        (Q false))
def ref02_Parts_W (a : GRat) (Q : Bool → List Int → List Int → Prop) : Prop :=
  joinW (α := Bool) (fun next1 =>
    ref02_Valid_W a fun r =>
    condW (!r)
      (next1 true)
      (next1 ((a.Num.length : Int) == 0)))
    fun x =>
    condW x
      (Q false [] [1])
      (Q a.Neg a.Num a.Den)
def ref01_Add_W (a : List Int) (b : List Int) (Q : List Int → Prop) : Prop :=
  rng ((max (a.length : Int) (b.length : Int)) + 1) ∧
  loopW (σ := Int × Int × (List Int)) (0, 0, []) fun ⟨carry, x, out⟩ next1 =>
    condW (decide (x < ((max (a.length : Int) (b.length : Int)) + 1)))
      (ref01_word_W a x fun r =>
      ref01_word_W b x fun r1 =>
      setW (IntKind.wrap .u64 ((IntKind.wrap .u64 (r + r1)) + carry)) fun s =>
      ((out ++ [(IntKind.wrap .u32 s)]).length * 4 ≤ 140737488355328) ∧
      rng (x + 1) ∧
      next1 ((s / 2 ^ (Int.toNat 32)), (x + 1), (out ++ [(IntKind.wrap .u32 s)])))
      (ref01_Trim_W out fun r2 =>
      Q r2)
def ref02_Add_W (a : GRat) (b : GRat) (Q : GRat → Prop) : Prop :=
  ref02_Parts_W a fun r r1 r2 =>
  ref02_Parts_W b fun r3 r4 r5 =>
  ref01_Mul_W r1 r5 fun x =>
  ref01_Mul_W r4 r2 fun y1 =>
  ref01_Mul_W r2 r5 fun den =>
  condW (r == r3)
    (ref01_Add_W x y1 fun r6 =>
    ref02_From_W r r6 den fun r7 r8 =>
    Q r7)
    (joinW (α := Bool × (List Int) × (List Int)) (fun next1 =>
      ref01_Cmp_W x y1 fun r13 =>
      condW (decide (r13 < 0))
        (next1 (r3, y1, x))
        (next1 (r, x, y1)))
      fun ⟨s, x1, y2⟩ =>
      ref01_Sub_W x1 y2 fun r9 r10 =>
      ref02_From_W s r9 den fun r11 r12 =>
      Q r11)
def ref02_Sign_W (a : GRat) (Q : Int → Prop) : Prop :=
  ref02_Parts_W a fun r r1 r2 =>
  condW ((r1.length : Int) == 0)
    (Q 0)
    (condW r
      (Q (-1))
      (Q 1))
def ref50_rate_W (x : GRat) (Q : Bool → Prop) : Prop :=
  ref02_Valid_W x fun r =>
  condW r
    (ref02_Sign_W x fun r1 =>
    Q (decide (0 ≤ r1)))
    (Q false)
def ref02_Div_W (a : GRat) (b : GRat) (Q : GRat → Int → Prop) : Prop :=
  ref02_Parts_W a fun r r1 r2 =>
  ref02_Parts_W b fun r3 r4 r5 =>
  ref01_Mul_W r1 r5 fun r6 =>
  ref01_Mul_W r2 r4 fun r7 =>
  ref02_From_W (r != r3) r6 r7 fun r8 r9 =>
  Q r8 r9
def ref50_Unavailable_W (fail : GRat) (repair : GRat) (Q : GRat → Int → Prop) : Prop :=
  joinW (α := Bool) (fun next1 =>
    ref50_rate_W fail fun r3 =>
    condW (!r3)
      (next1 true)
      (ref50_rate_W repair fun r4 =>
      next1 (!r4)))
    fun x =>
    condW x
      (Q (⟨false, [], []⟩ : GRat) 3)
      (detW (ref02_Add_W fail repair) fun r =>
      detW2 (ref02_Div_W fail r) fun r1 r2 =>
      Q r1 r2)
def ref02_Of_W (n : Int) (Q : GRat → Prop) : Prop :=
  ref02_Make_W n 1 fun r r1 =>
  Q r
def ref50_Lists_W (fail : List GRat) (repair : List GRat) (Q : Int → Prop) : Prop :=
  condW ((fail.length : Int) != (repair.length : Int))
    (Q 11)
    (condW ((fail.length : Int) == 0)
      (Q 11)
      (condW (decide (8 < (fail.length : Int)))
        (Q 4)
        (loopW (σ := Int) 0 fun x next1 =>
          condW (decide (x < (fail.length : Int)))
            (((0 : Int) ≤ x ∧ x < (fail.length : Int)) ∧
            ref50_rate_W (at' fail x) fun r =>
            condW (!r)
              (Q 3)
              (((0 : Int) ≤ x ∧ x < (repair.length : Int)) ∧
              ref50_rate_W (at' repair x) fun r1 =>
              condW (!r1)
                (Q 3)
                (rng (x + 1) ∧
                next1 (x + 1))))
            (loopW (σ := Int) 0 fun x1 next2 =>
              condW (decide (x1 < (fail.length : Int)))
                (((0 : Int) ≤ x1 ∧ x1 < (fail.length : Int)) ∧
                ((0 : Int) ≤ x1 ∧ x1 < (repair.length : Int)) ∧
                detW2 (ref50_Unavailable_W (at' fail x1) (at' repair x1)) fun r2 r3 =>
                condW (r3 != 0)
                  (Q r3)
                  (rng (x1 + 1) ∧
                  next2 (x1 + 1)))
                (Q 0)))))
def ref02_Neg_W (a : GRat) (Q : GRat → Prop) : Prop :=
  ref02_Parts_W a fun r r1 r2 =>
  ref02_From_W (!r) r1 r2 fun r3 r4 =>
  Q r3
def ref02_Sub_W (a : GRat) (b : GRat) (Q : GRat → Prop) : Prop :=
  detW (ref02_Neg_W b) fun r =>
  detW (ref02_Add_W a r) fun r1 =>
  Q r1
def ref02_Mul_W (a : GRat) (b : GRat) (Q : GRat → Prop) : Prop :=
  ref02_Parts_W a fun r r1 r2 =>
  ref02_Parts_W b fun r3 r4 r5 =>
  ref01_Mul_W r1 r4 fun r6 =>
  ref01_Mul_W r2 r5 fun r7 =>
  ref02_From_W (r != r3) r6 r7 fun r8 r9 =>
  Q r8
def ref50_Stationary_W (fail : List GRat) (repair : List GRat) (Q : List GRat → Int → Prop) : Prop :=
  ref50_Lists_W fail repair fun e =>
  condW (e != 0)
    (Q [] e)
    ((((0 : Int) ≤ (fail.length : Int) ∧ (fail.length : Int) ≤ 64) ∧ rng (1 * 2 ^ (Int.toNat (fail.length : Int)))) ∧
    loopW (σ := Int × (List GRat)) (0, []) fun ⟨x, out⟩ next1 =>
      condW (decide (x < (1 * 2 ^ (Int.toNat (fail.length : Int)))))
        (ref02_Of_W 1 fun r =>
        loopW (σ := Int × GRat) (0, r) fun ⟨x1, x2⟩ next2 =>
          condW (decide (x1 < (fail.length : Int)))
            (((0 : Int) ≤ x1 ∧ x1 < (fail.length : Int)) ∧
            ((0 : Int) ≤ x1 ∧ x1 < (repair.length : Int)) ∧
            detW2 (ref50_Unavailable_W (at' fail x1) (at' repair x1)) fun r1 r2 =>
            joinW (α := GRat) (fun next3 =>
              ((0 : Int) ≤ x1 ∧ x1 ≤ 64) ∧
              condW ((bits .and .i64 (x / 2 ^ (Int.toNat x1)) 1) == 0)
                (detW (ref02_Of_W 1) fun r4 =>
                detW (ref02_Sub_W r4 r1) fun r5 =>
                next3 r5)
                (next3 r1))
              fun x3 =>
              ref02_Mul_W x2 x3 fun r3 =>
              rng (x1 + 1) ∧
              next2 ((x1 + 1), r3))
            (((out ++ [x2]).length * 56 ≤ 140737488355328) ∧
            rng (x + 1) ∧
            next1 ((x + 1), (out ++ [x2]))))
        (Q out 0))
def base_Num_W (err : Option Int) (Q : Int → Prop) : Prop :=
  condW (Option.isNone err)
    (Q 0)
    (condW (Option.isSome err)
      (Q (Option.getD err 0))
      (Q (-1)))
def law50_ProductRates_W (x : GRates) (a : GRat) (b : GRat) (Q : Bool → Prop) : Prop :=
  joinW (α := Bool) (fun next1 =>
    law50_awake_W fun r13 =>
    condW (!r13)
      (next1 true)
      (law50_short_W x.Fail 20 fun r14 =>
      condW (!r14)
        (next1 true)
        (law50_short_W x.Repair 20 fun r15 =>
        condW (!r15)
          (next1 true)
          (law50_short_W [a, b] 2 fun r16 =>
          next1 (!r16)))))
    fun x1 =>
    condW x1
      (law50_awake_W fun r =>
      Q r)
      (product_Stationary_W x.Fail x.Repair fun r1 r2 =>
      ref50_Stationary_W x.Fail x.Repair fun r3 r4 =>
      product_Unavailable_W a b fun r5 r6 =>
      ref50_Unavailable_W a b fun r7 r8 =>
      base_Num_W r2 fun r9 =>
      condW (r9 == r4)
        (base_Rats_W r1 r3 fun r10 =>
        condW r10
          (base_Num_W r6 fun r11 =>
          condW (r11 == r8)
            (base_Rat_W r5 r7 fun r12 =>
            Q r12)
            (Q false))
          (Q false))
        (Q false))
def rational_Prob_W (a : GRat) (Q : Bool → Prop) : Prop :=
  rational_Valid_W a fun r =>
  condW r
    (condW (!a.Neg)
      (natural_Cmp_W a.Num a.Den fun r1 =>
      Q (decide (r1 ≤ 0)))
      (Q false))
    (Q false)
def common_probs_1_W (x : GRat) (Q : Bool → Prop) : Prop :=
  rational_Prob_W x fun r =>
  Q (!r)
def common_probs_W (x0 : List GRat) (Q : Bool → Prop) : Prop := False
def common_choose_W (n : Int) (k1 : Int) (Q : Int → Prop) : Prop :=
  loopW (σ := Int × Int) (1, 0) fun ⟨out, x⟩ next1 =>
    condW (decide (x < k1))
      (rng (n - x) ∧
      rng (out * (n - x)) ∧
      rng (x + 1) ∧
      ((x + 1) ≠ 0 ∧ rng (Int.tdiv (out * (n - x)) (x + 1))) ∧
      rng (x + 1) ∧
      next1 ((Int.tdiv (out * (n - x)) (x + 1)), (x + 1)))
      (Q out)
def common_Greek_W (p : GRat) (factors : List GRat) (Q : List GRat → Option Int → Prop) : Prop :=
  joinW (α := Bool) (fun next4 =>
    common_probs_W [p] fun r8 =>
    condW (!r8)
      (next4 true)
      (common_probs_W factors fun r9 =>
      next4 (!r9)))
    fun x =>
    condW x
      (Q [] (some 3))
      (joinW (α := Bool) (fun next3 =>
        condW (decide ((factors.length : Int) < 1))
          (next3 true)
          (next3 (decide (3 < (factors.length : Int)))))
        fun x1 =>
        condW x1
          (Q [] (some 11))
          (rng ((factors.length : Int) + 1) ∧
          loopW (σ := Int × GRat × (List GRat)) (1, p, []) fun ⟨k1, x2, out⟩ next1 =>
            condW (decide (k1 ≤ ((factors.length : Int) + 1)))
              (joinW (α := GRat × GRat) (fun next2 =>
                condW (decide (k1 < ((factors.length : Int) + 1)))
                  (detW (rational_Of_W 1) fun r4 =>
                  rng (k1 - 1) ∧
                  ((0 : Int) ≤ (k1 - 1) ∧ (k1 - 1) < (factors.length : Int)) ∧
                  detW (rational_Sub_W r4 (at' factors (k1 - 1))) fun r5 =>
                  detW (rational_Mul_W x2 r5) fun r6 =>
                  rng (k1 - 1) ∧
                  ((0 : Int) ≤ (k1 - 1) ∧ (k1 - 1) < (factors.length : Int)) ∧
                  detW (rational_Mul_W x2 (at' factors (k1 - 1))) fun r7 =>
                  next2 (r7, r6))
                  (next2 (x2, x2)))
                fun ⟨x3, x4⟩ =>
                rng (((factors.length : Int) + 1) - 1) ∧
                rng (k1 - 1) ∧
                detW (common_choose_W (((factors.length : Int) + 1) - 1) (k1 - 1)) fun r =>
                detW (rational_Of_W r) fun r1 =>
                detW2 (rational_Div_W x4 r1) fun r2 r3 =>
                condW (Option.isSome r3)
                  (Q [] r3)
                  (((out ++ [r2]).length * 56 ≤ 140737488355328) ∧
                  rng (k1 + 1) ∧
                  next1 ((k1 + 1), x3, (out ++ [r2]))))
              (Q out none)))
def common_Beta_W (p : GRat) (beta : GRat) (Q : GRat → GRat → Option Int → Prop) : Prop :=
  common_probs_W [p, beta] fun r =>
  condW (!r)
    (Q (⟨false, [], []⟩ : GRat) (⟨false, [], []⟩ : GRat) (some 3))
    (rational_Mul_W beta p fun r1 =>
    detW (rational_Of_W 1) fun r2 =>
    detW (rational_Sub_W r2 r1) fun r3 =>
    rational_Sign_W r3 fun r4 =>
    condW (r4 == 0)
      (Q (⟨false, [], []⟩ : GRat) r1 none)
      (detW (rational_Sub_W p r1) fun r5 =>
      detW2 (rational_Div_W r5 r3) fun r6 r7 =>
      Q r6 r1 r7))
def law45_part_W (n : Int) (d : Int) (Q : GRat → Prop) : Prop :=
  ref02_Make_W n d fun r r1 =>
  Q r
def law45_awake_W (Q : Bool → Prop) : Prop := False
def law22_Short_W (a : GRat) (Q : Bool → Prop) : Prop :=
  condW (decide ((a.Num.length : Int) ≤ 40))
    (Q (decide ((a.Den.length : Int) ≤ 40)))
    (Q false)
def law45_short_W (l : List GRat) (Q : Bool → Prop) : Prop :=
  loopW (σ := Int) 0 fun x next1 =>
    condW (decide (x < (l.length : Int)))
      (((0 : Int) ≤ x ∧ x < (l.length : Int)) ∧
      law22_Short_W (at' l x) fun r =>
      condW (!r)
        (Q false)
        (rng (x + 1) ∧
        next1 (x + 1)))
      (Q (decide ((l.length : Int) ≤ 60)))
def ref02_Cmp_W (a : GRat) (b : GRat) (Q : Int → Prop) : Prop :=
  ref02_Sub_W a b fun r =>
  ref02_Sign_W r fun r1 =>
  Q r1
def ref02_Prob_W (a : GRat) (Q : Bool → Prop) : Prop :=
  detW (ref02_Valid_W a) fun r =>
  condW r
    (detW (ref02_Sign_W a) fun r1 =>
    condW (decide (0 ≤ r1))
      (detW (ref02_Of_W 1) fun r2 =>
      detW (ref02_Cmp_W a r2) fun r3 =>
      Q (decide (r3 ≤ 0)))
      (Q false))
    (Q false)
def ref45_probs_W (l : List GRat) (Q : Bool → Prop) : Prop :=
  loopW (σ := Int) 0 fun x next1 =>
    condW (decide (x < (l.length : Int)))
      (((0 : Int) ≤ x ∧ x < (l.length : Int)) ∧
      ref02_Prob_W (at' l x) fun r =>
      condW (!r)
        (Q false)
        (rng (x + 1) ∧
        next1 (x + 1)))
      (Q true)
def ref45_rest_W (x : GRat) (Q : GRat → Prop) : Prop :=
  detW (ref02_Of_W 1) fun r =>
  detW (ref02_Sub_W r x) fun r1 =>
  Q r1
def ref45_choose_W (n : Int) (k1 : Int) (Q : Int → Prop) : Prop :=
  loopW (σ := Int × Int) (1, 0) fun ⟨out, x⟩ next1 =>
    condW (decide (x < k1))
      (rng (n - x) ∧
      rng (out * (n - x)) ∧
      rng (x + 1) ∧
      ((x + 1) ≠ 0 ∧ rng (Int.tdiv (out * (n - x)) (x + 1))) ∧
      rng (x + 1) ∧
      next1 ((Int.tdiv (out * (n - x)) (x + 1)), (x + 1)))
      (Q out)
def ref45_Greek_W (p : GRat) (factors : List GRat) (Q : List GRat → Int → Prop) : Prop :=
  joinW (α := Bool) (fun next4 =>
    ref02_Prob_W p fun r7 =>
    condW (!r7)
      (next4 true)
      (ref45_probs_W factors fun r8 =>
      next4 (!r8)))
    fun x =>
    condW x
      (Q [] 3)
      (joinW (α := Bool) (fun next3 =>
        condW (decide ((factors.length : Int) < 1))
          (next3 true)
          (next3 (decide (3 < (factors.length : Int)))))
        fun x1 =>
        condW x1
          (Q [] 11)
          (rng ((factors.length : Int) + 1) ∧
          loopW (σ := Int × GRat × (List GRat)) (1, p, []) fun ⟨k1, x2, out⟩ next1 =>
            condW (decide (k1 ≤ ((factors.length : Int) + 1)))
              (joinW (α := GRat × GRat) (fun next2 =>
                condW (decide (k1 < ((factors.length : Int) + 1)))
                  (rng (k1 - 1) ∧
                  ((0 : Int) ≤ (k1 - 1) ∧ (k1 - 1) < (factors.length : Int)) ∧
                  detW (ref45_rest_W (at' factors (k1 - 1))) fun r4 =>
                  detW (ref02_Mul_W x2 r4) fun r5 =>
                  rng (k1 - 1) ∧
                  ((0 : Int) ≤ (k1 - 1) ∧ (k1 - 1) < (factors.length : Int)) ∧
                  detW (ref02_Mul_W x2 (at' factors (k1 - 1))) fun r6 =>
                  next2 (r6, r5))
                  (next2 (x2, x2)))
                fun ⟨x3, x4⟩ =>
                rng (((factors.length : Int) + 1) - 1) ∧
                rng (k1 - 1) ∧
                detW (ref45_choose_W (((factors.length : Int) + 1) - 1) (k1 - 1)) fun r =>
                detW (ref02_Of_W r) fun r1 =>
                detW2 (ref02_Div_W x4 r1) fun r2 r3 =>
                ((out ++ [r2]).length * 56 ≤ 140737488355328) ∧
                rng (k1 + 1) ∧
                next1 ((k1 + 1), x3, (out ++ [r2])))
              (Q out 0)))
def law45_CommonGreek_W (p : GRat) (factors : List GRat) (Q : Bool → Prop) : Prop :=
  joinW (α := Bool) (fun next1 =>
    law45_awake_W fun r7 =>
    condW (!r7)
      (next1 true)
      (law45_short_W [p] fun r8 =>
      condW (!r8)
        (next1 true)
        (law45_short_W factors fun r9 =>
        next1 (!r9))))
    fun x =>
    condW x
      (law45_awake_W fun r =>
      Q r)
      (common_Greek_W p factors fun r1 r2 =>
      ref45_Greek_W p factors fun r3 r4 =>
      base_Num_W r2 fun r5 =>
      condW (r5 == r4)
        (base_Rats_W r1 r3 fun r6 =>
        Q r6)
        (Q false))
def rational_Cmp_W (a : GRat) (b : GRat) (Q : Int → Prop) : Prop :=
  rational_Sub_W a b fun r =>
  rational_Sign_W r fun r1 =>
  Q r1
def law45_CommonTotal_W (p : GRat) (beta : GRat) (Q : Bool → Prop) : Prop :=
  joinW (α := Bool) (fun next2 =>
    law45_awake_W fun r19 =>
    condW (!r19)
      (next2 true)
      (law45_short_W [p, beta] fun r20 =>
      next2 (!r20)))
    fun x =>
    condW x
      (law45_awake_W fun r =>
      Q r)
      (common_Beta_W p beta fun r1 r2 r3 =>
      condW (Option.isSome r3)
        (rational_Prob_W p fun r4 =>
        condW (!r4)
          (Q true)
          (rational_Prob_W beta fun r5 =>
          Q (!r5)))
        (rational_Of_W 1 fun r6 =>
        detW (rational_Sub_W r6 r1) fun r7 =>
        detW (rational_Sub_W r6 r2) fun r8 =>
        detW (rational_Mul_W r7 r8) fun r9 =>
        detW (rational_Prob_W r1) fun r10 =>
        condW (!r10)
          (Q false)
          (detW (rational_Prob_W r2) fun r11 =>
          condW (!r11)
            (Q false)
            (detW (rational_Sub_W r6 r9) fun r12 =>
            detW (rational_Cmp_W r12 p) fun r13 =>
            condW (r13 != 0)
              (Q false)
              (joinW (α := Unit) (fun next1 =>
                rational_Sign_W beta fun r17 =>
                condW (r17 == 0)
                  (rational_Sign_W r2 fun r18 =>
                  condW (r18 != 0)
                    (Q false)
                    (next1 ()))
                  (next1 ()))
                fun _ =>
                rational_Cmp_W beta r6 fun r14 =>
                condW (r14 != 0)
                  (Q true)
                  (rational_Sign_W r1 fun r15 =>
                  condW (r15 == 0)
                    (rational_Cmp_W r2 p fun r16 =>
                    Q (r16 == 0))
                    (Q false)))))))
def ref45_Beta_W (p : GRat) (beta : GRat) (Q : GRat → GRat → Int → Prop) : Prop :=
  joinW (α := Bool) (fun next1 =>
    ref02_Prob_W p fun r7 =>
    condW (!r7)
      (next1 true)
      (ref02_Prob_W beta fun r8 =>
      next1 (!r8)))
    fun x =>
    condW x
      (Q (⟨false, [], []⟩ : GRat) (⟨false, [], []⟩ : GRat) 3)
      (ref02_Mul_W beta p fun r =>
      ref45_rest_W r fun r1 =>
      ref02_Sign_W r1 fun r2 =>
      condW (r2 == 0)
        (Q (⟨false, [], []⟩ : GRat) r 0)
        (detW (ref02_Sub_W p r) fun r3 =>
        detW (ref45_rest_W r) fun r4 =>
        detW2 (ref02_Div_W r3 r4) fun r5 r6 =>
        Q r5 r 0))
def common_Total_W (q : List GRat) (Q : GRat → Option Int → Prop) : Prop :=
  joinW (α := Bool) (fun next2 =>
    condW (decide ((q.length : Int) < 2))
      (next2 true)
      (next2 (decide (4 < (q.length : Int)))))
    fun x =>
    condW x
      (Q (⟨false, [], []⟩ : GRat) (some 11))
      (common_probs_W q fun r =>
      condW (!r)
        (Q (⟨false, [], []⟩ : GRat) (some 3))
        (loopW (σ := Int × GRat) (0, (⟨false, [], []⟩ : GRat)) fun ⟨x1, x2⟩ next1 =>
          condW (decide (x1 < (q.length : Int)))
            (((0 : Int) ≤ x1 ∧ x1 < (q.length : Int)) ∧
            rng ((q.length : Int) - 1) ∧
            detW (common_choose_W ((q.length : Int) - 1) x1) fun r1 =>
            detW (rational_Of_W r1) fun r2 =>
            detW (rational_Mul_W (at' q x1) r2) fun r3 =>
            detW (rational_Add_W x2 r3) fun r4 =>
            rng (x1 + 1) ∧
            next1 ((x1 + 1), r4))
            (Q x2 none)))
def ref45_Total_W (q : List GRat) (Q : GRat → Int → Prop) : Prop :=
  joinW (α := Bool) (fun next2 =>
    condW (decide ((q.length : Int) < 2))
      (next2 true)
      (next2 (decide (4 < (q.length : Int)))))
    fun x =>
    condW x
      (Q (⟨false, [], []⟩ : GRat) 11)
      (ref45_probs_W q fun r =>
      condW (!r)
        (Q (⟨false, [], []⟩ : GRat) 3)
        (loopW (σ := Int × GRat) (0, (⟨false, [], []⟩ : GRat)) fun ⟨x1, x2⟩ next1 =>
          condW (decide (x1 < (q.length : Int)))
            (((0 : Int) ≤ x1 ∧ x1 < (q.length : Int)) ∧
            rng ((q.length : Int) - 1) ∧
            detW (ref45_choose_W ((q.length : Int) - 1) x1) fun r1 =>
            detW (ref02_Of_W r1) fun r2 =>
            detW (ref02_Mul_W (at' q x1) r2) fun r3 =>
            detW (ref02_Add_W x2 r3) fun r4 =>
            rng (x1 + 1) ∧
            next1 ((x1 + 1), r4))
            (Q x2 0)))
def law45_CommonBeta_W (p : GRat) (beta : GRat) (q : List GRat) (Q : Bool → Prop) : Prop :=
  joinW (α := Bool) (fun next1 =>
    law45_awake_W fun r16 =>
    condW (!r16)
      (next1 true)
      (law45_short_W [p, beta] fun r17 =>
      condW (!r17)
        (next1 true)
        (law45_short_W q fun r18 =>
        next1 (!r18))))
    fun x =>
    condW x
      (law45_awake_W fun r =>
      Q r)
      (common_Beta_W p beta fun r1 r2 r3 =>
      ref45_Beta_W p beta fun r4 r5 r6 =>
      common_Total_W q fun r7 r8 =>
      ref45_Total_W q fun r9 r10 =>
      base_Num_W r3 fun r11 =>
      condW (r11 == r6)
        (base_Rat_W r1 r4 fun r12 =>
        condW r12
          (base_Rat_W r2 r5 fun r13 =>
          condW r13
            (base_Num_W r8 fun r14 =>
            condW (r14 == r10)
              (base_Rat_W r7 r9 fun r15 =>
              Q r15)
              (Q false))
            (Q false))
          (Q false))
        (Q false))
def law45_CommonSums_W (p : GRat) (factors : List GRat) (Q : Bool → Prop) : Prop :=
  joinW (α := Bool) (fun next2 =>
    law45_awake_W fun r8 =>
    condW (!r8)
      (next2 true)
      (law45_short_W [p] fun r9 =>
      condW (!r9)
        (next2 true)
        (law45_short_W factors fun r10 =>
        next2 (!r10))))
    fun x =>
    condW x
      (law45_awake_W fun r =>
      Q r)
      (common_Greek_W p factors fun r1 r2 =>
      condW (Option.isSome r2)
        (Q ((r1.length : Int) == 0))
        (common_Total_W r1 fun r3 r4 =>
        condW (Option.isSome r4)
          (Q false)
          (rng ((factors.length : Int) + 1) ∧
          condW ((r1.length : Int) != ((factors.length : Int) + 1))
            (Q false)
            (loopW (σ := Int) 0 fun x1 next1 =>
              condW (decide (x1 < (r1.length : Int)))
                (((0 : Int) ≤ x1 ∧ x1 < (r1.length : Int)) ∧
                rational_Prob_W (at' r1 x1) fun r5 =>
                condW (!r5)
                  (Q false)
                  (rational_Cmp_W (at' r1 x1) p fun r6 =>
                  condW (decide (0 < r6))
                    (Q false)
                    (rng (x1 + 1) ∧
                    next1 (x1 + 1))))
                (rational_Cmp_W r3 p fun r7 =>
                Q (r7 == 0))))))
def product_components_W (dist : List GRat) (Q : Int → Option Int → Prop) : Prop :=
  joinW (α := Int) (fun next2 =>
    loopW (σ := Int) 1 fun n1 next3 =>
      condW (decide (n1 ≤ 8))
        ((((0 : Int) ≤ n1 ∧ n1 ≤ 64) ∧ rng (1 * 2 ^ (Int.toNat n1))) ∧
        condW ((1 * 2 ^ (Int.toNat n1)) != (dist.length : Int))
          (rng (n1 + 1) ∧
          next3 (n1 + 1))
          (next2 n1))
        (next2 n1))
    fun n =>
    condW (decide (8 < n))
      (Q 0 (some 11))
      (loopW (σ := Int) 0 fun x next1 =>
        condW (decide (x < (dist.length : Int)))
          (((0 : Int) ≤ x ∧ x < (dist.length : Int)) ∧
          rational_Valid_W (at' dist x) fun r =>
          condW (!r)
            (Q 0 (some 3))
            (rng (x + 1) ∧
            next1 (x + 1)))
          (Q n none))
def product_Marginal_W (dist : List GRat) (i : Int) (Q : GRat → Option Int → Prop) : Prop :=
  product_components_W dist fun r r1 =>
  condW (Option.isSome r1)
    (Q (⟨false, [], []⟩ : GRat) r1)
    (joinW (α := Bool) (fun next2 =>
      condW (decide (i < 0))
        (next2 true)
        (next2 (decide (r ≤ i))))
      fun x =>
      condW x
        (Q (⟨false, [], []⟩ : GRat) (some 10))
        (loopW (σ := Int × GRat) (0, (⟨false, [], []⟩ : GRat)) fun ⟨x1, x2⟩ next1 =>
          condW (decide (x1 < (dist.length : Int)))
            (((0 : Int) ≤ x1 ∧ x1 < (dist.length : Int)) ∧
            ((0 : Int) ≤ i ∧ i ≤ 64) ∧
            condW ((bits .and .i64 (x1 / 2 ^ (Int.toNat i)) 1) == 1)
              (rational_Add_W x2 (at' dist x1) fun r2 =>
              rng (x1 + 1) ∧
              next1 ((x1 + 1), r2))
              (rng (x1 + 1) ∧
              next1 ((x1 + 1), x2)))
            (Q x2 none)))
def law50_ProductMarginals_W (x : GRates) (i : Int) (Q : Bool → Prop) : Prop :=
  joinW (α := Bool) (fun next2 =>
    law50_awake_W fun r8 =>
    condW (!r8)
      (next2 true)
      (law50_short_W x.Fail 8 fun r9 =>
      condW (!r9)
        (next2 true)
        (law50_short_W x.Repair 8 fun r10 =>
        next2 (!r10))))
    fun x1 =>
    condW x1
      (law50_awake_W fun r =>
      Q r)
      (product_Stationary_W x.Fail x.Repair fun r1 r2 =>
      joinW (α := Bool) (fun next1 =>
        condW (Option.isSome r2)
          (next1 true)
          (next1 ((x.Fail.length : Int) == 0)))
        fun x2 =>
        condW x2
          (Q ((r1.length : Int) == 0))
          ((x.Fail.length : Int) ≠ 0 ∧
          setW (Int.tmod (IntKind.wrap .i64 i) (x.Fail.length : Int)) fun k1 =>
          product_Marginal_W r1 k1 fun r3 r4 =>
          ((0 : Int) ≤ k1 ∧ k1 < (x.Fail.length : Int)) ∧
          ((0 : Int) ≤ k1 ∧ k1 < (x.Repair.length : Int)) ∧
          detW2 (product_Unavailable_W (at' x.Fail k1) (at' x.Repair k1)) fun r5 r6 =>
          condW (Option.isNone r4)
            (condW (Option.isNone r6)
              (rational_Cmp_W r3 r5 fun r7 =>
              Q (r7 == 0))
              (Q false))
            (Q false)))
def formula_arguments_W (kind : Int) (n : Int) (Q : Bool → Prop) : Prop :=
  condW (kind == 0)
    (Q (n == 0))
    (condW (kind == 1)
      (Q (n == 1))
      (condW (decide (1 ≤ n))
        (Q (decide (n ≤ 16)))
        (Q false)))
def formula_checkNode_W (f : GFormula) (i : Int) (Q : Option Int → Prop) : Prop :=
  ((0 : Int) ≤ i ∧ i < (f.Nodes.length : Int)) ∧
  joinW (α := Bool) (fun next5 =>
    condW (decide ((at' f.Nodes i).Kind < 0))
      (next5 true)
      (next5 (decide (5 < (at' f.Nodes i).Kind))))
    fun x =>
    condW x
      (Q (some 7))
      (formula_arguments_W ((at' f.Nodes i).Kind) (((at' f.Nodes i).Args).length : Int) fun r =>
      condW (!r)
        (Q (some 11))
        (loopW (σ := Int) 0 fun x1 next1 =>
          condW (decide (x1 < (((at' f.Nodes i).Args).length : Int)))
            (((0 : Int) ≤ x1 ∧ x1 < (((at' f.Nodes i).Args).length : Int)) ∧
            joinW (α := Bool) (fun next2 =>
              condW (decide ((at' ((at' f.Nodes i).Args) x1) < 0))
                (next2 true)
                (rng (f.Vars + i) ∧
                next2 (decide ((f.Vars + i) ≤ (at' ((at' f.Nodes i).Args) x1)))))
              fun x2 =>
              condW x2
                (Q (some 10))
                (rng (x1 + 1) ∧
                next1 (x1 + 1)))
            (condW ((at' f.Nodes i).Kind == 0)
              (joinW (α := Bool) (fun next3 =>
                condW ((at' f.Nodes i).K != 0)
                  (next3 ((at' f.Nodes i).K != 1))
                  (next3 false))
                fun x3 =>
                condW x3
                  (Q (some 3))
                  (Q none))
              (condW ((at' f.Nodes i).Kind == 4)
                (joinW (α := Bool) (fun next4 =>
                  condW (decide ((at' f.Nodes i).K < 1))
                    (next4 true)
                    (next4 (decide ((((at' f.Nodes i).Args).length : Int) < (at' f.Nodes i).K))))
                  fun x4 =>
                  condW x4
                    (Q (some 3))
                    (Q none))
                (condW ((at' f.Nodes i).K != 0)
                  (Q (some 2))
                  (Q none))))))
def formula_Valid_W (f : GFormula) (arg : Int) (Q : Bool → Prop) : Prop :=
  condW (decide (0 ≤ f.Vars))
    (condW (decide (0 ≤ arg))
      (condW (decide (arg < f.Vars))
        (Q true)
        (rng (arg - f.Vars) ∧
        Q (decide ((arg - f.Vars) < (f.Nodes.length : Int)))))
      (Q false))
    (Q false)
def formula_Check_W (f : GFormula) (Q : Option Int → Prop) : Prop :=
  joinW (α := Bool) (fun next2 =>
    condW (decide (f.Vars < 0))
      (next2 true)
      (next2 (decide (24 < f.Vars))))
    fun x =>
    condW x
      (Q (some 3))
      (condW (decide (128 < (f.Nodes.length : Int)))
        (Q (some 4))
        (loopW (σ := Int) 0 fun x1 next1 =>
          condW (decide (x1 < (f.Nodes.length : Int)))
            (formula_checkNode_W f x1 fun e =>
            condW (Option.isSome e)
              (Q e)
              (rng (x1 + 1) ∧
              next1 (x1 + 1)))
            (formula_Valid_W f f.Top fun r =>
            condW (!r)
              (Q (some 10))
              (Q none))))
def formula_check_W (f : GFormula) (failed : Int) (Q : Option Int → Prop) : Prop :=
  formula_Check_W f fun e =>
  condW (Option.isSome e)
    (Q e)
    (joinW (α := Bool) (fun next1 =>
      condW (decide (failed < 0))
        (next1 true)
        ((((0 : Int) ≤ f.Vars ∧ f.Vars ≤ 64) ∧ rng (1 * 2 ^ (Int.toNat f.Vars))) ∧
        next1 (decide ((1 * 2 ^ (Int.toNat f.Vars)) ≤ failed))))
      fun x =>
      condW x
        (Q (some 3))
        (Q none))
def formula_values_W (f : GFormula) (failed : Int) (Q : List Bool → Prop) : Prop :=
  rng (f.Vars + (f.Nodes.length : Int)) ∧
  mkOk 1 f.Vars (f.Vars + (f.Nodes.length : Int)) ∧
  loopW (σ := Int × (List Bool)) (0, (rep' f.Vars false)) fun ⟨x, v⟩ next1 =>
    condW (decide (x < ((Int.toNat f.Vars) : Int)))
      (((0 : Int) ≤ x ∧ x ≤ 64) ∧
      ((0 : Int) ≤ x ∧ x < (v.length : Int)) ∧
      rng (x + 1) ∧
      next1 ((x + 1), (set' v x ((bits .and .i64 (failed / 2 ^ (Int.toNat x)) 1) == 1))))
      (loopW (σ := Int × (List Bool)) (0, v) fun ⟨x1, v1⟩ next2 =>
        condW (decide (x1 < (f.Nodes.length : Int)))
          (((0 : Int) ≤ x1 ∧ x1 < (f.Nodes.length : Int)) ∧
          loopW (σ := Int × Int) (0, 0) fun ⟨n, x2⟩ next3 =>
            condW (decide (x2 < (((at' f.Nodes x1).Args).length : Int)))
              (((0 : Int) ≤ x2 ∧ x2 < (((at' f.Nodes x1).Args).length : Int)) ∧
              ((0 : Int) ≤ (at' ((at' f.Nodes x1).Args) x2) ∧ (at' ((at' f.Nodes x1).Args) x2) < (v1.length : Int)) ∧
              condW (at' v1 (at' ((at' f.Nodes x1).Args) x2))
                (rng (n + 1) ∧
                rng (x2 + 1) ∧
                next3 ((n + 1), (x2 + 1)))
                (rng (x2 + 1) ∧
                next3 (n, (x2 + 1))))
              (joinW (α := Bool) (fun next4 =>
                condW ((at' f.Nodes x1).Kind == 0)
                  (next4 ((at' f.Nodes x1).K == 1))
                  (condW ((at' f.Nodes x1).Kind == 1)
                    (next4 (n == 0))
                    (condW ((at' f.Nodes x1).Kind == 2)
                      (next4 (n == (((at' f.Nodes x1).Args).length : Int)))
                      (condW ((at' f.Nodes x1).Kind == 3)
                        (next4 (decide (0 < n)))
                        (condW ((at' f.Nodes x1).Kind == 4)
                          (next4 (decide ((at' f.Nodes x1).K ≤ n)))
                          (condW ((at' f.Nodes x1).Kind == 5)
                            (next4 ((Int.tmod n 2) == 1))
                            (next4 false)))))))
                fun is =>
                ((v1 ++ [is]).length * 1 ≤ 140737488355328) ∧
                rng (x1 + 1) ∧
                next2 ((x1 + 1), (v1 ++ [is]))))
          (Q v1))
def formula_Value_W (f : GFormula) (failed : Int) (Q : Bool → Option Int → Prop) : Prop :=
  formula_check_W f failed fun e =>
  condW (Option.isSome e)
    (Q false e)
    (detW (formula_values_W f failed) fun r =>
    ((0 : Int) ≤ f.Top ∧ f.Top < (r.length : Int)) ∧
    Q (at' r f.Top) none)
def product_Chain_W (x0 : List GRat) (x1 : List GRat) (x2 : GFormula) (Q : GChain → Option Int → Prop) : Prop := False
def law50_ProductBalanced_W (x : GRates) (Q : Bool → Prop) : Prop :=
  joinW (α := Bool) (fun next4 =>
    law50_awake_W fun r13 =>
    condW (!r13)
      (next4 true)
      (law50_short_W x.Fail 5 fun r14 =>
      condW (!r14)
        (next4 true)
        (law50_short_W x.Repair 5 fun r15 =>
        next4 (!r15))))
    fun x1 =>
    condW x1
      (law50_awake_W fun r =>
      Q r)
      (product_Stationary_W x.Fail x.Repair fun r1 r2 =>
      condW (Option.isSome r2)
        (Q ((r1.length : Int) == 0))
        (product_Chain_W x.Fail x.Repair (⟨(x.Fail.length : Int), [], 0⟩ : GFormula) fun r3 r4 =>
        condW (Option.isSome r4)
          (Q false)
          (condW ((r1.length : Int) != r3.States)
            (Q false)
            (mkOk 56 (r1.length : Int) (r1.length : Int) ∧
            loopW (σ := Int × GRat) (0, (⟨false, [], []⟩ : GRat)) fun ⟨x2, x3⟩ next1 =>
              condW (decide (x2 < (r1.length : Int)))
                (((0 : Int) ≤ x2 ∧ x2 < (r1.length : Int)) ∧
                rational_Sign_W (at' r1 x2) fun r5 =>
                condW (decide (r5 < 0))
                  (Q false)
                  (rational_Add_W x3 (at' r1 x2) fun r6 =>
                  rng (x2 + 1) ∧
                  next1 ((x2 + 1), r6)))
                (loopW (σ := Int × (List GRat)) (0, (rep' (r1.length : Int) (⟨false, [], []⟩ : GRat))) fun ⟨x4, net⟩ next2 =>
                  condW (decide (x4 < (r3.Moves.length : Int)))
                    (((0 : Int) ≤ x4 ∧ x4 < (r3.Moves.length : Int)) ∧
                    condW (decide ((at' r3.Moves x4).From < 0))
                      (Q false)
                      (condW (decide ((r1.length : Int) ≤ (at' r3.Moves x4).From))
                        (Q false)
                        (condW (decide ((at' r3.Moves x4).To < 0))
                          (Q false)
                          (condW (decide ((r1.length : Int) ≤ (at' r3.Moves x4).To))
                            (Q false)
                            (((0 : Int) ≤ (at' r3.Moves x4).From ∧ (at' r3.Moves x4).From < (r1.length : Int)) ∧
                            detW (rational_Mul_W (at' r1 ((at' r3.Moves x4).From)) ((at' r3.Moves x4).Rate)) fun r7 =>
                            ((0 : Int) ≤ (at' r3.Moves x4).From ∧ (at' r3.Moves x4).From < (net.length : Int)) ∧
                            detW (rational_Sub_W (at' net ((at' r3.Moves x4).From)) r7) fun r8 =>
                            ((0 : Int) ≤ (at' r3.Moves x4).To ∧ (at' r3.Moves x4).To < (net.length : Int)) ∧
                            detW (rational_Add_W (at' net ((at' r3.Moves x4).To)) r7) fun r9 =>
                            ((0 : Int) ≤ (at' r3.Moves x4).From ∧ (at' r3.Moves x4).From < (net.length : Int)) ∧
                            ((0 : Int) ≤ (at' r3.Moves x4).To ∧ (at' r3.Moves x4).To < (net.length : Int)) ∧
                            rng (x4 + 1) ∧
                            next2 ((x4 + 1), (set' (set' net ((at' r3.Moves x4).From) r8) ((at' r3.Moves x4).To) r9)))))))
                    (loopW (σ := Int) 0 fun x5 next3 =>
                      condW (decide (x5 < (net.length : Int)))
                        (((0 : Int) ≤ x5 ∧ x5 < (net.length : Int)) ∧
                        rational_Sign_W (at' net x5) fun r10 =>
                        condW (r10 != 0)
                          (Q false)
                          (rng (x5 + 1) ∧
                          next3 (x5 + 1)))
                        (detW (rational_Of_W 1) fun r11 =>
                        detW (rational_Cmp_W x3 r11) fun r12 =>
                        Q (r12 == 0))))))))
def law08_Light_W (f : GFormula) (Q : Bool → Prop) : Prop :=
  condW (decide (200 < (f.Nodes.length : Int)))
    (Q false)
    (loopW (σ := Int) 0 fun x next1 =>
      condW (decide (x < (f.Nodes.length : Int)))
        (((0 : Int) ≤ x ∧ x < (f.Nodes.length : Int)) ∧
        condW (decide (40 < (((at' f.Nodes x).Args).length : Int)))
          (Q false)
          (rng (x + 1) ∧
          next1 (x + 1)))
        (Q true))
def product_Down_W (dist : List GRat) (f : GFormula) (Q : GRat → Option Int → Prop) : Prop :=
  product_components_W dist fun r r1 =>
  condW (Option.isSome r1)
    (Q (⟨false, [], []⟩ : GRat) r1)
    (formula_Check_W f fun e =>
    condW (Option.isSome e)
      (Q (⟨false, [], []⟩ : GRat) e)
      (condW (f.Vars != r)
        (Q (⟨false, [], []⟩ : GRat) (some 11))
        (loopW (σ := Int × GRat) (0, (⟨false, [], []⟩ : GRat)) fun ⟨x, x1⟩ next1 =>
          condW (decide (x < (dist.length : Int)))
            (((0 : Int) ≤ x ∧ x < (dist.length : Int)) ∧
            formula_Value_W f x fun r2 r3 =>
            condW (Option.isSome r3)
              (Q (⟨false, [], []⟩ : GRat) r3)
              (condW r2
                (rational_Add_W x1 (at' dist x) fun r4 =>
                rng (x + 1) ∧
                next1 ((x + 1), r4))
                (rng (x + 1) ∧
                next1 ((x + 1), x1))))
            (Q x1 none))))
def law50_ProductDown_W (x0 : GRates) (x1 : GFormula) (Q : Bool → Prop) : Prop := False
def ref50_Size_W (dist : List GRat) (Q : Int → Int → Prop) : Prop :=
  loopW (σ := Int) 1 fun n next1 =>
    condW (decide (n ≤ 8))
      ((((0 : Int) ≤ n ∧ n ≤ 64) ∧ rng (1 * 2 ^ (Int.toNat n))) ∧
      condW ((dist.length : Int) != (1 * 2 ^ (Int.toNat n)))
        (rng (n + 1) ∧
        next1 (n + 1))
        (loopW (σ := Int) 0 fun x next2 =>
          condW (decide (x < (dist.length : Int)))
            (((0 : Int) ≤ x ∧ x < (dist.length : Int)) ∧
            ref02_Valid_W (at' dist x) fun r =>
            condW (!r)
              (Q 0 3)
              (rng (x + 1) ∧
              next2 (x + 1)))
            (Q n 0)))
      (Q 0 11)
def ref50_Marginal_W (dist : List GRat) (i : Int) (Q : GRat → Int → Prop) : Prop :=
  ref50_Size_W dist fun r r1 =>
  condW (r1 != 0)
    (Q (⟨false, [], []⟩ : GRat) r1)
    (joinW (α := Bool) (fun next2 =>
      condW (decide (i < 0))
        (next2 true)
        (next2 (decide (r ≤ i))))
      fun x =>
      condW x
        (Q (⟨false, [], []⟩ : GRat) 10)
        (loopW (σ := Int × GRat) (0, (⟨false, [], []⟩ : GRat)) fun ⟨x1, x2⟩ next1 =>
          condW (decide (x1 < (dist.length : Int)))
            (((0 : Int) ≤ x1 ∧ x1 < (dist.length : Int)) ∧
            ((0 : Int) ≤ i ∧ i ≤ 64) ∧
            condW ((bits .and .i64 (x1 / 2 ^ (Int.toNat i)) 1) == 1)
              (ref02_Add_W x2 (at' dist x1) fun r2 =>
              rng (x1 + 1) ∧
              next1 ((x1 + 1), r2))
              (rng (x1 + 1) ∧
              next1 ((x1 + 1), x2)))
            (Q x2 0)))
def ref08_node_W (f : GFormula) (i : Int) (Q : Int → Prop) : Prop :=
  ((0 : Int) ≤ i ∧ i < (f.Nodes.length : Int)) ∧
  joinW (α := Int × Int) (fun next2 =>
    condW ((at' f.Nodes i).Kind == 0)
      (next2 (0, 0))
      (condW ((at' f.Nodes i).Kind == 1)
        (next2 (1, 1))
        (condW ((at' f.Nodes i).Kind == 2)
          (next2 (1, 16))
          (condW ((at' f.Nodes i).Kind == 3)
            (next2 (1, 16))
            (condW ((at' f.Nodes i).Kind == 4)
              (next2 (1, 16))
              (condW ((at' f.Nodes i).Kind == 5)
                (next2 (1, 16))
                (Q 7)))))))
    fun ⟨least, most⟩ =>
    condW (decide ((((at' f.Nodes i).Args).length : Int) < least))
      (Q 11)
      (condW (decide (most < (((at' f.Nodes i).Args).length : Int)))
        (Q 11)
        (loopW (σ := Int) 0 fun x next1 =>
          condW (decide (x < (((at' f.Nodes i).Args).length : Int)))
            (((0 : Int) ≤ x ∧ x < (((at' f.Nodes i).Args).length : Int)) ∧
            condW (decide ((at' ((at' f.Nodes i).Args) x) < 0))
              (Q 10)
              (rng (f.Vars + i) ∧
              condW (decide ((f.Vars + i) ≤ (at' ((at' f.Nodes i).Args) x)))
                (Q 10)
                (rng (x + 1) ∧
                next1 (x + 1))))
            (condW ((at' f.Nodes i).Kind == 0)
              (condW ((at' f.Nodes i).K != 0)
                (condW ((at' f.Nodes i).K != 1)
                  (Q 3)
                  (Q 0))
                (Q 0))
              (condW ((at' f.Nodes i).Kind == 4)
                (condW (decide ((at' f.Nodes i).K < 1))
                  (Q 3)
                  (condW (decide ((((at' f.Nodes i).Args).length : Int) < (at' f.Nodes i).K))
                    (Q 3)
                    (Q 0)))
                (condW ((at' f.Nodes i).K != 0)
                  (Q 2)
                  (Q 0))))))
def ref08_Valid_W (f : GFormula) (arg : Int) (Q : Bool → Prop) : Prop :=
  condW (decide (0 ≤ f.Vars))
    (condW (decide (0 ≤ arg))
      (condW (decide (arg < f.Vars))
        (Q true)
        (rng (arg - f.Vars) ∧
        Q (decide ((arg - f.Vars) < (f.Nodes.length : Int)))))
      (Q false))
    (Q false)
def ref08_Check_W (f : GFormula) (Q : Int → Prop) : Prop :=
  condW (decide (f.Vars < 0))
    (Q 3)
    (condW (decide (24 < f.Vars))
      (Q 3)
      (condW (decide (128 < (f.Nodes.length : Int)))
        (Q 4)
        (loopW (σ := Int) 0 fun x next1 =>
          condW (decide (x < (f.Nodes.length : Int)))
            (ref08_node_W f x fun e =>
            condW (e != 0)
              (Q e)
              (rng (x + 1) ∧
              next1 (x + 1)))
            (ref08_Valid_W f f.Top fun r =>
            condW (!r)
              (Q 10)
              (Q 0)))))
def ref08_Of_W (f : GFormula) (values : List Bool) (failed : Int) (arg : Int) (Q : Bool → Prop) : Prop :=
  condW (decide (arg < f.Vars))
    (((0 : Int) ≤ arg ∧ arg ≤ 64) ∧
    Q ((bits .and .i64 (failed / 2 ^ (Int.toNat arg)) 1) == 1))
    (rng (arg - f.Vars) ∧
    ((0 : Int) ≤ (arg - f.Vars) ∧ (arg - f.Vars) < (values.length : Int)) ∧
    Q (at' values (arg - f.Vars)))
def ref08_Values_W (x0 : GFormula) (x1 : Int) (Q : List Bool → Prop) : Prop := False
def ref08_Value_W (f : GFormula) (failed : Int) (Q : Bool → Prop) : Prop :=
  detW (ref08_Values_W f failed) fun r =>
  detW (ref08_Of_W f r failed f.Top) fun r1 =>
  Q r1
def ref50_Down_W (dist : List GRat) (f : GFormula) (Q : GRat → Int → Prop) : Prop :=
  ref50_Size_W dist fun r r1 =>
  joinW (α := Int) (fun next2 =>
    condW (r1 == 0)
      (ref08_Check_W f fun e1 =>
      next2 e1)
      (next2 r1))
    fun e =>
    condW (e != 0)
      (Q (⟨false, [], []⟩ : GRat) e)
      (condW (f.Vars != r)
        (Q (⟨false, [], []⟩ : GRat) 11)
        (loopW (σ := Int × GRat) (0, (⟨false, [], []⟩ : GRat)) fun ⟨x, x1⟩ next1 =>
          condW (decide (x < (dist.length : Int)))
            (((0 : Int) ≤ x ∧ x < (dist.length : Int)) ∧
            ref08_Value_W f x fun r2 =>
            condW r2
              (ref02_Add_W x1 (at' dist x) fun r3 =>
              rng (x + 1) ∧
              next1 ((x + 1), r3))
              (rng (x + 1) ∧
              next1 ((x + 1), x1)))
            (Q x1 0)))
def law50_ProductSums_W (dist : List GRat) (i : Int) (f : GFormula) (Q : Bool → Prop) : Prop :=
  joinW (α := Bool) (fun next1 =>
    law50_awake_W fun r13 =>
    condW (!r13)
      (next1 true)
      (law50_short_W dist 300 fun r14 =>
      condW (!r14)
        (next1 true)
        (law08_Light_W f fun r15 =>
        next1 (!r15))))
    fun x =>
    condW x
      (law50_awake_W fun r =>
      Q r)
      (product_Marginal_W dist i fun r1 r2 =>
      product_Down_W dist f fun r3 r4 =>
      ref50_Marginal_W dist i fun r5 r6 =>
      ref50_Down_W dist f fun r7 r8 =>
      base_Num_W r2 fun r9 =>
      condW (r9 == r6)
        (base_Rat_W r1 r5 fun r10 =>
        condW r10
          (base_Num_W r4 fun r11 =>
          condW (r11 == r8)
            (base_Rat_W r3 r7 fun r12 =>
            Q r12)
            (Q false))
          (Q false))
        (Q false))
def ref50_Chain_W (x0 : List GRat) (x1 : List GRat) (x2 : GFormula) (Q : GChain → Int → Prop) : Prop := False
def base_Bools_W (a : List Bool) (b : List Bool) (Q : Bool → Prop) : Prop :=
  condW ((a.length : Int) != (b.length : Int))
    (Q false)
    (loopW (σ := Int) 0 fun x next1 =>
      condW (decide (x < (a.length : Int)))
        (((0 : Int) ≤ x ∧ x < (a.length : Int)) ∧
        ((0 : Int) ≤ x ∧ x < (b.length : Int)) ∧
        condW ((at' a x) != (at' b x))
          (Q false)
          (rng (x + 1) ∧
          next1 (x + 1)))
        (Q true))
def base_Chain_W (a : GChain) (b : GChain) (Q : Bool → Prop) : Prop :=
  condW (a.States != b.States)
    (Q false)
    (condW (a.Start != b.Start)
      (Q false)
      (base_Bools_W a.Down b.Down fun r =>
      condW (!r)
        (Q false)
        (condW ((a.Moves.length : Int) != (b.Moves.length : Int))
          (Q false)
          (loopW (σ := Int) 0 fun x next1 =>
            condW (decide (x < (a.Moves.length : Int)))
              (((0 : Int) ≤ x ∧ x < (a.Moves.length : Int)) ∧
              ((0 : Int) ≤ x ∧ x < (b.Moves.length : Int)) ∧
              condW ((at' a.Moves x).From != (at' b.Moves x).From)
                (Q false)
                (((0 : Int) ≤ x ∧ x < (a.Moves.length : Int)) ∧
                ((0 : Int) ≤ x ∧ x < (b.Moves.length : Int)) ∧
                condW ((at' a.Moves x).To != (at' b.Moves x).To)
                  (Q false)
                  (((0 : Int) ≤ x ∧ x < (a.Moves.length : Int)) ∧
                  ((0 : Int) ≤ x ∧ x < (b.Moves.length : Int)) ∧
                  detW (base_Rat_W ((at' a.Moves x).Rate) ((at' b.Moves x).Rate)) fun r1 =>
                  condW (!r1)
                    (Q false)
                    (rng (x + 1) ∧
                    next1 (x + 1)))))
              (Q true)))))
def chain_state_W (c : GChain) (s : Int) (Q : Bool → Prop) : Prop :=
  condW (decide (0 ≤ s))
    (Q (decide (s < c.States)))
    (Q false)
def chain_before_W (a : GMove) (b : GMove) (Q : Bool → Prop) : Prop :=
  condW (decide (a.From < b.From))
    (Q true)
    (condW (a.From == b.From)
      (Q (decide (a.To < b.To)))
      (Q false))
def chain_Check_W (c : GChain) (Q : Option Int → Prop) : Prop :=
  joinW (α := Bool) (fun next5 =>
    condW (decide (c.States < 1))
      (next5 true)
      (next5 (decide (256 < c.States))))
    fun x =>
    condW x
      (Q (some 3))
      (condW ((c.Down.length : Int) != c.States)
        (Q (some 11))
        (chain_state_W c c.Start fun r =>
        condW (!r)
          (Q (some 10))
          (loopW (σ := Int) 0 fun x1 next1 =>
            condW (decide (x1 < (c.Moves.length : Int)))
              (((0 : Int) ≤ x1 ∧ x1 < (c.Moves.length : Int)) ∧
              joinW (α := Bool) (fun next4 =>
                chain_state_W c ((at' c.Moves x1).From) fun r4 =>
                condW (!r4)
                  (next4 true)
                  (chain_state_W c ((at' c.Moves x1).To) fun r5 =>
                  next4 (!r5)))
                fun x2 =>
                condW x2
                  (Q (some 10))
                  (condW ((at' c.Moves x1).From == (at' c.Moves x1).To)
                    (Q (some 2))
                    (joinW (α := Bool) (fun next3 =>
                      rational_Valid_W ((at' c.Moves x1).Rate) fun r2 =>
                      condW (!r2)
                        (next3 true)
                        (rational_Sign_W ((at' c.Moves x1).Rate) fun r3 =>
                        next3 (decide (r3 ≤ 0))))
                      fun x3 =>
                      condW x3
                        (Q (some 3))
                        (joinW (α := Bool) (fun next2 =>
                          condW (decide (0 < x1))
                            (rng (x1 - 1) ∧
                            ((0 : Int) ≤ (x1 - 1) ∧ (x1 - 1) < (c.Moves.length : Int)) ∧
                            detW (chain_before_W (at' c.Moves (x1 - 1)) (at' c.Moves x1)) fun r1 =>
                            next2 (!r1))
                            (next2 false))
                          fun x4 =>
                          condW x4
                            (Q (some 13))
                            (rng (x1 + 1) ∧
                            next1 (x1 + 1))))))
              (Q none))))
def law50_ProductChains_W (x : GRates) (f : GFormula) (Q : Bool → Prop) : Prop :=
  joinW (α := Bool) (fun next1 =>
    law50_awake_W fun r8 =>
    condW (!r8)
      (next1 true)
      (law50_short_W x.Fail 20 fun r9 =>
      condW (!r9)
        (next1 true)
        (law50_short_W x.Repair 20 fun r10 =>
        condW (!r10)
          (next1 true)
          (law08_Light_W f fun r11 =>
          next1 (!r11)))))
    fun x1 =>
    condW x1
      (law50_awake_W fun r =>
      Q r)
      (product_Chain_W x.Fail x.Repair f fun r1 r2 =>
      ref50_Chain_W x.Fail x.Repair f fun r3 r4 =>
      base_Num_W r2 fun r5 =>
      condW (r5 == r4)
        (base_Chain_W r1 r3 fun r6 =>
        condW r6
          (condW (r4 != 0)
            (Q true)
            (chain_Check_W r1 fun r7 =>
            Q (Option.isNone r7)))
          (Q false))
        (Q false))
def phases_Check_1_W (x : GRat) (Q : Bool → Prop) : Prop :=
  rational_Prob_W x fun r =>
  Q (!r)
def phases_Check_W (x0 : GMission) (Q : Option Int → Prop) : Prop := False
def slices_Clone___int_int_W (s : List Int) (Q : List Int → Prop) : Prop :=
  ∀ isnil : Bool, (isnil = true → s = []) →
  condW isnil
    (Q [])
    ((([] ++ s).length * 8 ≤ 140737488355328) ∧
    Q ([] ++ s))
def phases_Unfold_W (x0 : GMission) (Q : GFormula → List GRat → Option Int → Prop) : Prop := False
def phases_CheckHistory_W (m : GMission) (h1 : List Int) (Q : Option Int → Prop) : Prop :=
  phases_Check_W m fun err =>
  condW (Option.isSome err)
    (Q err)
    (condW ((h1.length : Int) != (m.P.length : Int))
      (Q (some 11))
      (loopW (σ := Int) 0 fun x next1 =>
        condW (decide (x < (h1.length : Int)))
          (((0 : Int) ≤ x ∧ x < (h1.length : Int)) ∧
          joinW (α := Bool) (fun next2 =>
            condW (decide ((at' h1 x) < 0))
              (next2 true)
              (next2 (decide ((m.Phases.length : Int) < (at' h1 x)))))
            fun x1 =>
            condW x1
              (Q (some 3))
              (rng (x + 1) ∧
              next1 (x + 1)))
          (Q none)))
def phases_failed_W (h1 : List Int) (j : Int) (Q : Int → Prop) : Prop :=
  loopW (σ := Int × Int) (0, 0) fun ⟨set, x⟩ next1 =>
    condW (decide (x < (h1.length : Int)))
      (((0 : Int) ≤ x ∧ x < (h1.length : Int)) ∧
      condW (decide ((at' h1 x) ≤ j))
        ((((0 : Int) ≤ x ∧ x ≤ 64) ∧ rng (1 * 2 ^ (Int.toNat x))) ∧
        rng (x + 1) ∧
        next1 ((bits .or .i64 set (1 * 2 ^ (Int.toNat x))), (x + 1)))
        (rng (x + 1) ∧
        next1 (set, (x + 1))))
      (Q set)
def phases_Fails_W (m : GMission) (h1 : List Int) (Q : Int → Option Int → Prop) : Prop :=
  phases_CheckHistory_W m h1 fun err =>
  condW (Option.isSome err)
    (Q 0 err)
    (loopW (σ := Int) 0 fun x next1 =>
      condW (decide (x < (m.Phases.length : Int)))
        (((0 : Int) ≤ x ∧ x < (m.Phases.length : Int)) ∧
        detW (phases_failed_W h1 x) fun r =>
        detW2 (formula_Value_W (at' m.Phases x) r) fun r1 r2 =>
        condW (Option.isSome r2)
          (Q 0 r2)
          (condW r1
            (Q x none)
            (rng (x + 1) ∧
            next1 (x + 1))))
        (Q (m.Phases.length : Int) none))
def phases_State_W (m : GMission) (h1 : List Int) (Q : Int → Option Int → Prop) : Prop :=
  phases_CheckHistory_W m h1 fun err =>
  condW (Option.isSome err)
    (Q 0 err)
    (loopW (σ := Int × Int) (0, 0) fun ⟨set, x⟩ next1 =>
      condW (decide (x < (h1.length : Int)))
        (((0 : Int) ≤ x ∧ x < (h1.length : Int)) ∧
        condW (decide ((at' h1 x) < (m.Phases.length : Int)))
          (rng (x * (m.Phases.length : Int)) ∧
          rng ((x * (m.Phases.length : Int)) + (at' h1 x)) ∧
          (((0 : Int) ≤ ((x * (m.Phases.length : Int)) + (at' h1 x)) ∧ ((x * (m.Phases.length : Int)) + (at' h1 x)) ≤ 64) ∧ rng (1 * 2 ^ (Int.toNat ((x * (m.Phases.length : Int)) + (at' h1 x))))) ∧
          setW (bits .or .i64 set (1 * 2 ^ (Int.toNat ((x * (m.Phases.length : Int)) + (at' h1 x))))) fun set1 =>
          rng (x + 1) ∧
          next1 (set1, (x + 1)))
          (rng (x + 1) ∧
          next1 (set, (x + 1))))
        (Q set none))
def phases_Weight_W (m : GMission) (h1 : List Int) (Q : GRat → Option Int → Prop) : Prop :=
  phases_CheckHistory_W m h1 fun err =>
  condW (Option.isSome err)
    (Q (⟨false, [], []⟩ : GRat) err)
    (rational_Of_W 1 fun r =>
    loopW (σ := Int × GRat) (0, r) fun ⟨x, x1⟩ next1 =>
      condW (decide (x < (h1.length : Int)))
        (((0 : Int) ≤ x ∧ x < (h1.length : Int)) ∧
        ((0 : Int) ≤ x ∧ x < (m.P.length : Int)) ∧
        rng ((at' h1 x) + 1) ∧
        ((0 : Int) ≤ 0 ∧ 0 ≤ (min ((at' h1 x) + 1) (m.Phases.length : Int)) ∧ (min ((at' h1 x) + 1) (m.Phases.length : Int)) ≤ ((at' m.P x).length : Int)) ∧
        loopW (σ := Int × GRat) (0, x1) fun ⟨x2, x3⟩ next2 =>
          condW (decide (x2 < ((sub' (at' m.P x) 0 (min ((at' h1 x) + 1) (m.Phases.length : Int))).length : Int)))
            (((0 : Int) ≤ x2 ∧ x2 < ((sub' (at' m.P x) 0 (min ((at' h1 x) + 1) (m.Phases.length : Int))).length : Int)) ∧
            joinW (α := GRat) (fun next3 =>
              condW (decide (x2 < (at' h1 x)))
                (rational_Sub_W r (at' (sub' (at' m.P x) 0 (min ((at' h1 x) + 1) (m.Phases.length : Int))) x2) fun r2 =>
                next3 r2)
                (next3 (at' (sub' (at' m.P x) 0 (min ((at' h1 x) + 1) (m.Phases.length : Int))) x2)))
              fun x4 =>
              rational_Mul_W x3 x4 fun r1 =>
              rng (x2 + 1) ∧
              next2 ((x2 + 1), r1))
            (rng (x + 1) ∧
            next1 ((x + 1), x3)))
        (Q x1 none))
def law46_part_W (n : Int) (d : Int) (Q : GRat → Prop) : Prop :=
  ref02_Make_W n d fun r r1 =>
  Q r
def law46_example_W (Q : GMission → Prop) : Prop := False
def law46_awake_W (Q : Bool → Prop) : Prop :=
  law46_example_W fun r =>
  phases_Fails_W r [1, 2] fun r1 r2 =>
  law46_example_W fun r3 =>
  phases_State_W r3 [1, 2] fun r4 r5 =>
  law46_example_W fun r6 =>
  phases_Weight_W r6 [1, 2] fun r7 r8 =>
  law46_example_W fun r9 =>
  phases_Unfold_W r9 fun r10 r11 r12 =>
  condW (Option.isNone r2)
    (condW (Option.isNone r5)
      (condW (Option.isNone r8)
        (condW (Option.isNone r12)
          (condW (r1 == 1)
            (condW (r4 == 2)
              (detW (law46_part_W 1 16) fun r13 =>
              detW (base_Rat_W r7 r13) fun r14 =>
              condW r14
                (condW (r10.Vars == 4)
                  (condW ((r10.Nodes.length : Int) == 5)
                    (Q (r10.Top == 8))
                    (Q false))
                  (Q false))
                (Q false))
              (Q false))
            (Q false))
          (Q false))
        (Q false))
      (Q false))
    (Q false)
def law46_large_W (m : GMission) (Q : Bool → Prop) : Prop :=
  condW (decide (20 < (m.Phases.length : Int)))
    (Q true)
    (condW (decide (50 < (m.P.length : Int)))
      (Q true)
      (loopW (σ := Int) 0 fun i next1 =>
        condW (decide (i < (m.P.length : Int)))
          (((0 : Int) ≤ i ∧ i < (m.P.length : Int)) ∧
          condW (decide (50 < ((at' m.P i).length : Int)))
            (Q true)
            (loopW (σ := Int) 0 fun j next2 =>
              ((0 : Int) ≤ i ∧ i < (m.P.length : Int)) ∧
              condW (decide (j < ((at' m.P i).length : Int)))
                (((0 : Int) ≤ i ∧ i < (m.P.length : Int)) ∧
                ((0 : Int) ≤ j ∧ j < ((at' m.P i).length : Int)) ∧
                condW (decide (4 < (((at' (at' m.P i) j).Num).length : Int)))
                  (Q true)
                  (((0 : Int) ≤ i ∧ i < (m.P.length : Int)) ∧
                  ((0 : Int) ≤ j ∧ j < ((at' m.P i).length : Int)) ∧
                  condW (decide (4 < (((at' (at' m.P i) j).Den).length : Int)))
                    (Q true)
                    (rng (j + 1) ∧
                    next2 (j + 1))))
                (rng (i + 1) ∧
                next1 (i + 1))))
          (Q false)))
def ref46_Events_W (m : GMission) (Q : Int → Prop) : Prop :=
  ((0 : Int) ≤ 0 ∧ 0 < (m.Phases.length : Int)) ∧
  Q ((at' m.Phases 0).Vars)
def ref46_formulas_W (m : GMission) (Q : Int → Prop) : Prop :=
  condW ((m.Phases.length : Int) == 0)
    (Q 11)
    (condW (decide (6 < (m.Phases.length : Int)))
      (Q 4)
      (loopW (σ := Int) 0 fun j next1 =>
        condW (decide (j < (m.Phases.length : Int)))
          (((0 : Int) ≤ j ∧ j < (m.Phases.length : Int)) ∧
          ref08_Check_W (at' m.Phases j) fun e =>
          condW (e != 0)
            (Q e)
            (((0 : Int) ≤ j ∧ j < (m.Phases.length : Int)) ∧
            detW (ref46_Events_W m) fun r =>
            condW ((at' m.Phases j).Vars != r)
              (Q 11)
              (rng (j + 1) ∧
              next1 (j + 1))))
          (Q 0)))
def ref46_Check_W (m : GMission) (Q : Int → Prop) : Prop :=
  ref46_formulas_W m fun e =>
  condW (e != 0)
    (Q e)
    (detW (ref46_Events_W m) fun r =>
    rng (r * (m.Phases.length : Int)) ∧
    condW (decide (24 < (r * (m.Phases.length : Int))))
      (Q 4)
      (detW (ref46_Events_W m) fun r1 =>
      condW ((m.P.length : Int) != r1)
        (Q 11)
        (loopW (σ := Int) 0 fun i next1 =>
          condW (decide (i < (m.P.length : Int)))
            (((0 : Int) ≤ i ∧ i < (m.P.length : Int)) ∧
            condW (((at' m.P i).length : Int) != (m.Phases.length : Int))
              (Q 11)
              (loopW (σ := Int) 0 fun j next2 =>
                ((0 : Int) ≤ i ∧ i < (m.P.length : Int)) ∧
                condW (decide (j < ((at' m.P i).length : Int)))
                  (((0 : Int) ≤ i ∧ i < (m.P.length : Int)) ∧
                  ((0 : Int) ≤ j ∧ j < ((at' m.P i).length : Int)) ∧
                  ref02_Prob_W (at' (at' m.P i) j) fun r2 =>
                  condW (!r2)
                    (Q 3)
                    (rng (j + 1) ∧
                    next2 (j + 1)))
                  (rng (i + 1) ∧
                  next1 (i + 1))))
            (Q 0))))
def ref46_CheckHistory_W (m : GMission) (h1 : List Int) (Q : Int → Prop) : Prop :=
  ref46_Check_W m fun e =>
  condW (e != 0)
    (Q e)
    (ref46_Events_W m fun r =>
    condW ((h1.length : Int) != r)
      (Q 11)
      (loopW (σ := Int) 0 fun i next1 =>
        condW (decide (i < (h1.length : Int)))
          (((0 : Int) ≤ i ∧ i < (h1.length : Int)) ∧
          condW (decide ((at' h1 i) < 0))
            (Q 3)
            (((0 : Int) ≤ i ∧ i < (h1.length : Int)) ∧
            condW (decide ((m.Phases.length : Int) < (at' h1 i)))
              (Q 3)
              (rng (i + 1) ∧
              next1 (i + 1))))
          (Q 0)))
def law46_PhasesChecks_W (m : GMission) (h1 : List Int) (Q : Bool → Prop) : Prop :=
  joinW (α := Bool) (fun next1 =>
    law46_awake_W fun r7 =>
    condW (!r7)
      (next1 true)
      (law46_large_W m fun r8 =>
      condW r8
        (next1 true)
        (next1 (decide (100 < (h1.length : Int))))))
    fun x =>
    condW x
      (law46_awake_W fun r =>
      Q r)
      (detW (phases_Check_W m) fun r1 =>
      detW (base_Num_W r1) fun r2 =>
      detW (ref46_Check_W m) fun r3 =>
      condW (r2 == r3)
        (detW (phases_CheckHistory_W m h1) fun r4 =>
        detW (base_Num_W r4) fun r5 =>
        detW (ref46_CheckHistory_W m h1) fun r6 =>
        Q (r5 == r6))
        (Q false))
def ref46_ors_W (x0 : Int) (x1 : Int) (Q : List GNode → Prop) : Prop := False
def ref46_moved_W (m : GMission) (j : Int) (arg : Int) (first : Int) (Q : Int → Prop) : Prop :=
  detW (ref46_Events_W m) fun n =>
  condW (decide (n ≤ arg))
    (rng (first + arg) ∧
    rng ((first + arg) - n) ∧
    Q ((first + arg) - n))
    (condW (j == 0)
      (rng (arg * (m.Phases.length : Int)) ∧
      Q (arg * (m.Phases.length : Int)))
      (rng (n * (m.Phases.length : Int)) ∧
      rng ((m.Phases.length : Int) - 1) ∧
      rng (arg * ((m.Phases.length : Int) - 1)) ∧
      rng ((n * (m.Phases.length : Int)) + (arg * ((m.Phases.length : Int) - 1))) ∧
      rng (((n * (m.Phases.length : Int)) + (arg * ((m.Phases.length : Int) - 1))) + j) ∧
      rng ((((n * (m.Phases.length : Int)) + (arg * ((m.Phases.length : Int) - 1))) + j) - 1) ∧
      Q ((((n * (m.Phases.length : Int)) + (arg * ((m.Phases.length : Int) - 1))) + j) - 1)))
def ref46_Unfold_W (x0 : GMission) (Q : GFormula → List GRat → Int → Prop) : Prop := False
def base_Ints_W (a : List Int) (b : List Int) (Q : Bool → Prop) : Prop :=
  condW ((a.length : Int) != (b.length : Int))
    (Q false)
    (loopW (σ := Int) 0 fun x next1 =>
      condW (decide (x < (a.length : Int)))
        (((0 : Int) ≤ x ∧ x < (a.length : Int)) ∧
        ((0 : Int) ≤ x ∧ x < (b.length : Int)) ∧
        condW ((at' a x) != (at' b x))
          (Q false)
          (rng (x + 1) ∧
          next1 (x + 1)))
        (Q true))
def base_Formula_W (a : GFormula) (b : GFormula) (Q : Bool → Prop) : Prop :=
  condW (a.Vars != b.Vars)
    (Q false)
    (condW (a.Top != b.Top)
      (Q false)
      (condW ((a.Nodes.length : Int) != (b.Nodes.length : Int))
        (Q false)
        (loopW (σ := Int) 0 fun x next1 =>
          condW (decide (x < (a.Nodes.length : Int)))
            (((0 : Int) ≤ x ∧ x < (a.Nodes.length : Int)) ∧
            ((0 : Int) ≤ x ∧ x < (b.Nodes.length : Int)) ∧
            condW ((at' a.Nodes x).Kind != (at' b.Nodes x).Kind)
              (Q false)
              (((0 : Int) ≤ x ∧ x < (a.Nodes.length : Int)) ∧
              ((0 : Int) ≤ x ∧ x < (b.Nodes.length : Int)) ∧
              condW ((at' a.Nodes x).K != (at' b.Nodes x).K)
                (Q false)
                (((0 : Int) ≤ x ∧ x < (a.Nodes.length : Int)) ∧
                ((0 : Int) ≤ x ∧ x < (b.Nodes.length : Int)) ∧
                detW (base_Ints_W ((at' a.Nodes x).Args) ((at' b.Nodes x).Args)) fun r =>
                condW (!r)
                  (Q false)
                  (rng (x + 1) ∧
                  next1 (x + 1)))))
            (Q true))))
def law46_PhasesUnfolds_W (m : GMission) (Q : Bool → Prop) : Prop :=
  joinW (α := Bool) (fun next2 =>
    law46_awake_W fun r10 =>
    condW (!r10)
      (next2 true)
      (law46_large_W m fun r11 =>
      next2 r11))
    fun x =>
    condW x
      (law46_awake_W fun r =>
      Q r)
      (phases_Unfold_W m fun r1 r2 r3 =>
      ref46_Check_W m fun code =>
      joinW (α := Int × (List GRat) × GFormula) (fun next1 =>
        condW (code == 0)
          (ref46_Unfold_W m fun r7 r8 r9 =>
          next1 (r9, r8, r7))
          (next1 (code, [], (⟨0, [], 0⟩ : GFormula))))
        fun ⟨code1, wp, x1⟩ =>
        base_Num_W r3 fun r4 =>
        condW (r4 == code1)
          (base_Formula_W r1 x1 fun r5 =>
          condW r5
            (base_Rats_W r2 wp fun r6 =>
            Q r6)
            (Q false))
          (Q false))
def base_Is_W (err : Option Int) (code : Int) (Q : Bool → Prop) : Prop :=
  condW (Option.isSome err)
    (Q ((Option.getD err 0) == code))
    (Q false)
def law46_PhasesHolds_W (m : GMission) (h1 : List Int) (Q : Bool → Prop) : Prop :=
  joinW (α := Bool) (fun next1 =>
    law46_awake_W fun r11 =>
    condW (!r11)
      (next1 true)
      (law46_large_W m fun r12 =>
      condW r12
        (next1 true)
        (condW (decide (100 < (h1.length : Int)))
          (next1 true)
          (ref46_CheckHistory_W m h1 fun r13 =>
          next1 (r13 != 0)))))
    fun x =>
    condW x
      (law46_awake_W fun r =>
      Q r)
      (phases_Unfold_W m fun r1 r2 r3 =>
      condW (Option.isSome r3)
        (base_Is_W r3 4 fun r4 =>
        Q r4)
        (phases_Fails_W m h1 fun r5 r6 =>
        phases_State_W m h1 fun r7 r8 =>
        formula_Value_W r1 r7 fun r9 r10 =>
        condW (Option.isNone r6)
          (condW (Option.isNone r8)
            (condW (Option.isNone r10)
              (Q (r9 == (decide (r5 < (m.Phases.length : Int)))))
              (Q false))
            (Q false))
          (Q false)))
def law46_PhasesFirst_W (m : GMission) (state : Int) (Q : Bool → Prop) : Prop :=
  joinW (α := Bool) (fun next4 =>
    law46_awake_W fun r9 =>
    condW (!r9)
      (next4 true)
      (law46_large_W m fun r10 =>
      condW r10
        (next4 true)
        (ref46_Check_W m fun r11 =>
        next4 (r11 != 0))))
    fun x =>
    condW x
      (law46_awake_W fun r =>
      Q r)
      (detW (ref46_Events_W m) fun n =>
      condW (decide (state < 0))
        (Q true)
        (rng (n * (m.Phases.length : Int)) ∧
        (((0 : Int) ≤ (n * (m.Phases.length : Int)) ∧ (n * (m.Phases.length : Int)) ≤ 64) ∧ rng (1 * 2 ^ (Int.toNat (n * (m.Phases.length : Int))))) ∧
        condW (decide ((1 * 2 ^ (Int.toNat (n * (m.Phases.length : Int)))) ≤ state))
          (Q true)
          (phases_Unfold_W m fun r1 r2 r3 =>
          condW (Option.isSome r3)
            (base_Is_W r3 4 fun r4 =>
            Q r4)
            (loopW (σ := Int × (List Int)) (0, []) fun ⟨i, h1⟩ next1 =>
              condW (decide (i < n))
                (joinW (α := Int) (fun next2 =>
                  loopW (σ := Int) 0 fun j1 next3 =>
                    condW (decide (j1 < (m.Phases.length : Int)))
                      (rng (i * (m.Phases.length : Int)) ∧
                      rng ((i * (m.Phases.length : Int)) + j1) ∧
                      ((0 : Int) ≤ ((i * (m.Phases.length : Int)) + j1) ∧ ((i * (m.Phases.length : Int)) + j1) ≤ 64) ∧
                      condW ((bits .and .i64 (state / 2 ^ (Int.toNat ((i * (m.Phases.length : Int)) + j1))) 1) == 0)
                        (rng (j1 + 1) ∧
                        next3 (j1 + 1))
                        (next2 j1))
                      (next2 j1))
                  fun j =>
                  ((h1 ++ [j]).length * 8 ≤ 140737488355328) ∧
                  rng (i + 1) ∧
                  next1 ((i + 1), (h1 ++ [j])))
                (phases_Fails_W m h1 fun r5 r6 =>
                formula_Value_W r1 state fun r7 r8 =>
                condW (Option.isNone r6)
                  (condW (Option.isNone r8)
                    (Q (r7 == (decide (r5 < (m.Phases.length : Int)))))
                    (Q false))
                  (Q false))))))
def ref46_Histories_W (x0 : Int) (x1 : Int) (Q : List (List Int) → Prop) : Prop := False
def law46_PhasesSums_W (m : GMission) (Q : Bool → Prop) : Prop :=
  joinW (α := Bool) (fun next3 =>
    law46_awake_W fun r9 =>
    condW (!r9)
      (next3 true)
      (law46_large_W m fun r10 =>
      condW r10
        (next3 true)
        (ref46_Check_W m fun r11 =>
        next3 (r11 != 0))))
    fun x =>
    condW x
      (law46_awake_W fun r =>
      Q r)
      (loopW (σ := Int × Int) (1, 0) fun ⟨n, i⟩ next1 =>
        ref46_Events_W m fun r1 =>
        condW (decide (i < r1))
          (rng ((m.Phases.length : Int) + 1) ∧
          rng (n * ((m.Phases.length : Int) + 1)) ∧
          rng (i + 1) ∧
          next1 ((n * ((m.Phases.length : Int) + 1)), (i + 1)))
          (condW (decide (300 < n))
            (Q true)
            (detW (ref46_Events_W m) fun r2 =>
            detW (ref46_Histories_W r2 (m.Phases.length : Int)) fun l =>
            loopW (σ := Int × GRat) (0, (⟨false, [], []⟩ : GRat)) fun ⟨i1, x1⟩ next2 =>
              condW (decide (i1 < (l.length : Int)))
                (((0 : Int) ≤ i1 ∧ i1 < (l.length : Int)) ∧
                detW2 (phases_Weight_W m (at' l i1)) fun r3 r4 =>
                condW (Option.isSome r4)
                  (Q false)
                  (ref02_Sign_W r3 fun r5 =>
                  condW (decide (r5 < 0))
                    (Q false)
                    (ref02_Add_W x1 r3 fun r6 =>
                    rng (i1 + 1) ∧
                    next2 ((i1 + 1), r6))))
                (detW (ref02_Of_W 1) fun r7 =>
                detW (ref02_Cmp_W x1 r7) fun r8 =>
                Q (r8 == 0)))))
def slices_Index___int_int_W (s : List Int) (v : Int) (Q : Int → Prop) : Prop :=
  loopW (σ := Int) 0 fun x next1 =>
    condW (decide (x < (s.length : Int)))
      (((0 : Int) ≤ x ∧ x < (s.length : Int)) ∧
      condW (v == (at' s x))
        (Q x)
        (rng (x + 1) ∧
        next1 (x + 1)))
      (Q (-1))
def slices_Contains___int_int_W (s : List Int) (v : Int) (Q : Bool → Prop) : Prop :=
  slices_Index___int_int_W s v fun r =>
  Q (decide (0 ≤ r))
def common_checkGroup_W (x0 : GCauseGroup) (x1 : List GRat) (x2 : List Int) (Q : List Int → Option Int → Prop) : Prop := False
def common_check_W (f : GFormula) (p : List GRat) (groups : List GCauseGroup) (Q : Option Int → Prop) : Prop :=
  formula_Check_W f fun e =>
  condW (Option.isSome e)
    (Q e)
    (condW ((p.length : Int) != f.Vars)
      (Q (some 11))
      (common_probs_W p fun r =>
      condW (!r)
        (Q (some 3))
        (loopW (σ := (List Int) × Int) ([], 0) fun ⟨members, x⟩ next1 =>
          condW (decide (x < (groups.length : Int)))
            (((0 : Int) ≤ x ∧ x < (groups.length : Int)) ∧
            common_checkGroup_W (at' groups x) p members fun r1 r2 =>
            condW (Option.isSome r2)
              (Q r2)
              (rng (x + 1) ∧
              next1 (r1, (x + 1))))
            (Q none))))
def slices_Clone___uint32_uint32_W (s : List Int) (Q : List Int → Prop) : Prop :=
  ∀ isnil : Bool, (isnil = true → s = []) →
  condW isnil
    (Q [])
    ((([] ++ s).length * 4 ≤ 140737488355328) ∧
    Q ([] ++ s))
def common_clone_W (x : GRat) (Q : GRat → Prop) : Prop :=
  detW (slices_Clone___uint32_uint32_W x.Num) fun r =>
  detW (slices_Clone___uint32_uint32_W x.Den) fun r1 =>
  Q (⟨x.Neg, r, r1⟩ : GRat)
def common_causes_W (g1 : GCauseGroup) (p : GRat) (Q : List Gcause → GRat → Option Int → Prop) : Prop :=
  condW (g1.Kind == 0)
    (((0 : Int) ≤ 0 ∧ 0 < (g1.Factors.length : Int)) ∧
    detW3 (common_Beta_W p (at' g1.Factors 0)) fun r r1 r2 =>
    Q [(⟨(⟨r1.Neg, r1.Num, r1.Den⟩ : GRat), g1.Members⟩ : Gcause)] r r2)
    (common_Greek_W p g1.Factors fun r3 r4 =>
    condW (Option.isSome r4)
      (Q [] (⟨false, [], []⟩ : GRat) r4)
      ((((0 : Int) ≤ (g1.Members.length : Int) ∧ (g1.Members.length : Int) ≤ 64) ∧ rng (1 * 2 ^ (Int.toNat (g1.Members.length : Int)))) ∧
      loopW (σ := Int × (List Gcause)) (0, []) fun ⟨x, out⟩ next1 =>
        condW (decide (x < (1 * 2 ^ (Int.toNat (g1.Members.length : Int)))))
          (loopW (σ := Int × (List Int)) (0, []) fun ⟨x1, l⟩ next2 =>
            condW (decide (x1 < (g1.Members.length : Int)))
              (((0 : Int) ≤ x1 ∧ x1 < (g1.Members.length : Int)) ∧
              ((0 : Int) ≤ x1 ∧ x1 ≤ 64) ∧
              condW ((bits .and .i64 (x / 2 ^ (Int.toNat x1)) 1) == 1)
                (((l ++ [(at' g1.Members x1)]).length * 8 ≤ 140737488355328) ∧
                rng (x1 + 1) ∧
                next2 ((x1 + 1), (l ++ [(at' g1.Members x1)])))
                (rng (x1 + 1) ∧
                next2 ((x1 + 1), l)))
              (condW (decide (1 < (l.length : Int)))
                (rng ((l.length : Int) - 1) ∧
                ((0 : Int) ≤ ((l.length : Int) - 1) ∧ ((l.length : Int) - 1) < (r3.length : Int)) ∧
                ((out ++ [(⟨(⟨(at' r3 ((l.length : Int) - 1)).Neg, (at' r3 ((l.length : Int) - 1)).Num, (at' r3 ((l.length : Int) - 1)).Den⟩ : GRat), l⟩ : Gcause)]).length * 80 ≤ 140737488355328) ∧
                rng (x + 1) ∧
                next1 ((x + 1), (out ++ [(⟨(⟨(at' r3 ((l.length : Int) - 1)).Neg, (at' r3 ((l.length : Int) - 1)).Num, (at' r3 ((l.length : Int) - 1)).Den⟩ : GRat), l⟩ : Gcause)])))
                (rng (x + 1) ∧
                next1 ((x + 1), out))))
          (((0 : Int) ≤ 0 ∧ 0 < (r3.length : Int)) ∧
          Q out (at' r3 0) none)))
def common_Expand_W (x0 : GFormula) (x1 : List GRat) (x2 : List GCauseGroup) (Q : GFormula → List GRat → Option Int → Prop) : Prop := False
def law45_CommonNone_W (x0 : GFormula) (x1 : List GRat) (Q : Bool → Prop) : Prop := False
def phases_Failed_W (m : GMission) (h1 : List Int) (j : Int) (Q : Int → Option Int → Prop) : Prop :=
  phases_CheckHistory_W m h1 fun err =>
  condW (Option.isSome err)
    (Q 0 err)
    (joinW (α := Bool) (fun next1 =>
      condW (decide (j < 0))
        (next1 true)
        (next1 (decide ((m.Phases.length : Int) ≤ j))))
      fun x =>
      condW x
        (Q 0 (some 10))
        (phases_failed_W h1 j fun r =>
        Q r none))
def ref46_Failed_W (h1 : List Int) (j : Int) (Q : Int → Prop) : Prop :=
  loopW (σ := Int × Int) (0, 0) fun ⟨out, i⟩ next1 =>
    condW (decide (i < (h1.length : Int)))
      (((0 : Int) ≤ i ∧ i < (h1.length : Int)) ∧
      condW (decide ((at' h1 i) ≤ j))
        ((((0 : Int) ≤ i ∧ i ≤ 64) ∧ rng (1 * 2 ^ (Int.toNat i))) ∧
        rng (i + 1) ∧
        next1 ((bits .or .i64 out (1 * 2 ^ (Int.toNat i))), (i + 1)))
        (rng (i + 1) ∧
        next1 (out, (i + 1))))
      (Q out)
def ref46_Fails_W (m : GMission) (h1 : List Int) (Q : Int → Prop) : Prop :=
  loopW (σ := Int) 0 fun j next1 =>
    condW (decide (j < (m.Phases.length : Int)))
      (((0 : Int) ≤ j ∧ j < (m.Phases.length : Int)) ∧
      detW (ref46_Failed_W h1 j) fun r =>
      detW (ref08_Value_W (at' m.Phases j) r) fun r1 =>
      condW r1
        (Q j)
        (rng (j + 1) ∧
        next1 (j + 1)))
      (Q (m.Phases.length : Int))
def ref46_State_W (m : GMission) (h1 : List Int) (Q : Int → Prop) : Prop :=
  loopW (σ := Int × Int) (0, 0) fun ⟨out, i⟩ next1 =>
    condW (decide (i < (h1.length : Int)))
      (((0 : Int) ≤ i ∧ i < (h1.length : Int)) ∧
      condW (decide ((at' h1 i) < (m.Phases.length : Int)))
        (rng (i * (m.Phases.length : Int)) ∧
        ((0 : Int) ≤ i ∧ i < (h1.length : Int)) ∧
        rng ((i * (m.Phases.length : Int)) + (at' h1 i)) ∧
        (((0 : Int) ≤ ((i * (m.Phases.length : Int)) + (at' h1 i)) ∧ ((i * (m.Phases.length : Int)) + (at' h1 i)) ≤ 64) ∧ rng (1 * 2 ^ (Int.toNat ((i * (m.Phases.length : Int)) + (at' h1 i))))) ∧
        rng (i + 1) ∧
        next1 ((bits .or .i64 out (1 * 2 ^ (Int.toNat ((i * (m.Phases.length : Int)) + (at' h1 i))))), (i + 1)))
        (rng (i + 1) ∧
        next1 (out, (i + 1))))
      (Q out)
def ref46_Weight_W (m : GMission) (h1 : List Int) (Q : GRat → Prop) : Prop :=
  ref02_Of_W 1 fun r =>
  loopW (σ := Int × GRat) (0, r) fun ⟨i, x⟩ next1 =>
    condW (decide (i < (h1.length : Int)))
      (loopW (σ := Int × GRat) (0, x) fun ⟨k1, x1⟩ next2 =>
        ((0 : Int) ≤ i ∧ i < (h1.length : Int)) ∧
        condW (decide (k1 < (at' h1 i)))
          (detW (ref02_Of_W 1) fun r1 =>
          ((0 : Int) ≤ i ∧ i < (m.P.length : Int)) ∧
          ((0 : Int) ≤ k1 ∧ k1 < ((at' m.P i).length : Int)) ∧
          detW (ref02_Sub_W r1 (at' (at' m.P i) k1)) fun r2 =>
          detW (ref02_Mul_W x1 r2) fun r3 =>
          rng (k1 + 1) ∧
          next2 ((k1 + 1), r3))
          (((0 : Int) ≤ i ∧ i < (h1.length : Int)) ∧
          condW (decide ((at' h1 i) < (m.Phases.length : Int)))
            (((0 : Int) ≤ i ∧ i < (m.P.length : Int)) ∧
            ((0 : Int) ≤ i ∧ i < (h1.length : Int)) ∧
            ((0 : Int) ≤ (at' h1 i) ∧ (at' h1 i) < ((at' m.P i).length : Int)) ∧
            detW (ref02_Mul_W x1 (at' (at' m.P i) (at' h1 i))) fun r4 =>
            rng (i + 1) ∧
            next1 ((i + 1), r4))
            (rng (i + 1) ∧
            next1 ((i + 1), x1))))
      (Q x)
def law46_PhasesReads_W (m : GMission) (h1 : List Int) (j : Int) (Q : Bool → Prop) : Prop :=
  joinW (α := Bool) (fun next2 =>
    law46_awake_W fun r20 =>
    condW (!r20)
      (next2 true)
      (law46_large_W m fun r21 =>
      condW r21
        (next2 true)
        (next2 (decide (100 < (h1.length : Int))))))
    fun x =>
    condW x
      (law46_awake_W fun r =>
      Q r)
      (phases_Failed_W m h1 j fun r1 r2 =>
      phases_Fails_W m h1 fun r3 r4 =>
      phases_Weight_W m h1 fun r5 r6 =>
      phases_State_W m h1 fun r7 r8 =>
      ref46_CheckHistory_W m h1 fun code =>
      condW (code != 0)
        (condW (r1 == 0)
          (condW (r3 == 0)
            (condW (r7 == 0)
              (base_Rat_W r5 (⟨false, [], []⟩ : GRat) fun r9 =>
              condW r9
                (base_Num_W r2 fun r10 =>
                condW (r10 == code)
                  (base_Num_W r4 fun r11 =>
                  condW (r11 == code)
                    (base_Num_W r6 fun r12 =>
                    condW (r12 == code)
                      (base_Num_W r8 fun r13 =>
                      Q (r13 == code))
                      (Q false))
                    (Q false))
                  (Q false))
                (Q false))
              (Q false))
            (Q false))
          (Q false))
        (condW (Option.isSome r4)
          (Q false)
          (condW (Option.isSome r6)
            (Q false)
            (condW (Option.isSome r8)
              (Q false)
              (detW (ref46_Fails_W m h1) fun r14 =>
              condW (r3 != r14)
                (Q false)
                (detW (ref46_State_W m h1) fun r15 =>
                condW (r7 != r15)
                  (Q false)
                  (detW (ref46_Weight_W m h1) fun r16 =>
                  detW (base_Rat_W r5 r16) fun r17 =>
                  condW (!r17)
                    (Q false)
                    (joinW (α := Bool) (fun next1 =>
                      condW (decide (j < 0))
                        (next1 true)
                        (next1 (decide ((m.Phases.length : Int) ≤ j))))
                      fun x1 =>
                      condW x1
                        (condW (r1 == 0)
                          (base_Is_W r2 10 fun r18 =>
                          Q r18)
                          (Q false))
                        (condW (Option.isNone r2)
                          (ref46_Failed_W h1 j fun r19 =>
                          Q (r1 == r19))
                          (Q false))))))))))
def ref08_Below_W (f : GFormula) (Q : List Bool → Prop) : Prop :=
  rng (f.Vars + (f.Nodes.length : Int)) ∧
  mkOk 1 (f.Vars + (f.Nodes.length : Int)) (f.Vars + (f.Nodes.length : Int)) ∧
  ((0 : Int) ≤ f.Top ∧ f.Top < ((Int.toNat (f.Vars + (f.Nodes.length : Int))) : Int)) ∧
  rng ((f.Nodes.length : Int) - 1) ∧
  loopW (σ := Int × (List Bool)) (((f.Nodes.length : Int) - 1), (set' (rep' (f.Vars + (f.Nodes.length : Int)) false) f.Top true)) fun ⟨i, mark⟩ next1 =>
    condW (decide (0 ≤ i))
      (rng (f.Vars + i) ∧
      ((0 : Int) ≤ (f.Vars + i) ∧ (f.Vars + i) < (mark.length : Int)) ∧
      condW (!(at' mark (f.Vars + i)))
        (rng (i - 1) ∧
        next1 ((i - 1), mark))
        (((0 : Int) ≤ i ∧ i < (f.Nodes.length : Int)) ∧
        loopW (σ := Int × (List Bool)) (0, mark) fun ⟨x, mark1⟩ next2 =>
          condW (decide (x < (((at' f.Nodes i).Args).length : Int)))
            (((0 : Int) ≤ x ∧ x < (((at' f.Nodes i).Args).length : Int)) ∧
            ((0 : Int) ≤ (at' ((at' f.Nodes i).Args) x) ∧ (at' ((at' f.Nodes i).Args) x) < (mark1.length : Int)) ∧
            rng (x + 1) ∧
            next2 ((x + 1), (set' mark1 (at' ((at' f.Nodes i).Args) x) true)))
            (rng (i - 1) ∧
            next1 ((i - 1), mark1))))
      (Q mark)
def ref33_Coherent_W (f : GFormula) (Q : Bool → Prop) : Prop :=
  ref08_Below_W f fun below =>
  loopW (σ := Int) 0 fun i next1 =>
    condW (decide (i < (f.Nodes.length : Int)))
      (rng (f.Vars + i) ∧
      ((0 : Int) ≤ (f.Vars + i) ∧ (f.Vars + i) < (below.length : Int)) ∧
      condW (at' below (f.Vars + i))
        (((0 : Int) ≤ i ∧ i < (f.Nodes.length : Int)) ∧
        condW ((at' f.Nodes i).Kind == 1)
          (Q false)
          (((0 : Int) ≤ i ∧ i < (f.Nodes.length : Int)) ∧
          condW ((at' f.Nodes i).Kind == 5)
            (Q false)
            (rng (i + 1) ∧
            next1 (i + 1))))
        (rng (i + 1) ∧
        next1 (i + 1)))
      (Q true)
def base_Clip_W (n : Int) (lo : Int) (hi : Int) (Q : Int → Prop) : Prop :=
  Q (max lo (min n hi))
def law46_PhasesGrows_W (m : GMission) (h1 : List Int) (later : List Int) (Q : Bool → Prop) : Prop :=
  joinW (α := Bool) (fun next5 =>
    law46_awake_W fun r9 =>
    condW (!r9)
      (next5 true)
      (law46_large_W m fun r10 =>
      condW r10
        (next5 true)
        (condW (decide (100 < (h1.length : Int)))
          (next5 true)
          (ref46_CheckHistory_W m h1 fun r11 =>
          next5 (r11 != 0)))))
    fun x =>
    condW x
      (law46_awake_W fun r =>
      Q r)
      (loopW (σ := Int × Int) (0, 0) fun ⟨before, j⟩ next1 =>
        condW (decide (j < (m.Phases.length : Int)))
          (phases_Failed_W m h1 j fun r1 r2 =>
          condW (Option.isSome r2)
            (Q false)
            (condW ((bits .andNot .i64 before r1) != 0)
              (Q false)
              (rng (j + 1) ∧
              next1 (r1, (j + 1)))))
          (loopW (σ := Int) 0 fun j1 next2 =>
            condW (decide (j1 < (m.Phases.length : Int)))
              (((0 : Int) ≤ j1 ∧ j1 < (m.Phases.length : Int)) ∧
              ref33_Coherent_W (at' m.Phases j1) fun r3 =>
              condW (!r3)
                (Q true)
                (rng (j1 + 1) ∧
                next2 (j1 + 1)))
              ((([] ++ h1).length * 8 ≤ 140737488355328) ∧
              joinW (α := (List Int)) (fun next3 =>
                loopW (σ := Int × (List Int)) (0, ([] ++ h1)) fun ⟨i, l1⟩ next4 =>
                  condW (decide (i < (l1.length : Int)))
                    (condW (decide (i < (later.length : Int)))
                      (((0 : Int) ≤ i ∧ i < (l1.length : Int)) ∧
                      ((0 : Int) ≤ i ∧ i < (later.length : Int)) ∧
                      detW (base_Clip_W (max (at' l1 i) (at' later i)) 0 (m.Phases.length : Int)) fun r8 =>
                      ((0 : Int) ≤ i ∧ i < (l1.length : Int)) ∧
                      rng (i + 1) ∧
                      next4 ((i + 1), (set' l1 i r8)))
                      (next3 l1))
                    (next3 l1))
                fun l =>
                phases_Fails_W m h1 fun r4 r5 =>
                phases_Fails_W m l fun r6 r7 =>
                condW (Option.isNone r5)
                  (condW (Option.isNone r7)
                    (Q (decide (r4 ≤ r6)))
                    (Q false))
                  (Q false))))
def phases_Unfold_1_W (x0 : Int) (x1 : Int) (x2 : List Int) (Q : Int → Prop) : Prop := False
def phases_Unfold_2_W (x0 : Int) (Q : Int → Prop) : Prop := False
end Go.Gg
