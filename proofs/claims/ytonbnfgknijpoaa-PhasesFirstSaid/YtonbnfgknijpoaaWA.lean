/- Formulas of functions. Conditions: none. -/
import Derived.Test.YtonbnfgknijpoaaGgU
namespace Go.Gg
def str_633d862b : ByteArray := ⟨#[0, 1, 2, 2, 3, 3, 3, 3, 4, 4, 4, 4, 4, 4, 4, 4, 5, 5, 5, 5, 5, 5, 5, 5, 5, 5, 5, 5, 5, 5, 5, 5, 6, 6, 6, 6, 6, 6, 6, 6, 6, 6, 6, 6, 6, 6, 6, 6, 6, 6, 6, 6, 6, 6, 6, 6, 6, 6, 6, 6, 6, 6, 6, 6, 7, 7, 7, 7, 7, 7, 7, 7, 7, 7, 7, 7, 7, 7, 7, 7, 7, 7, 7, 7, 7, 7, 7, 7, 7, 7, 7, 7, 7, 7, 7, 7, 7, 7, 7, 7, 7, 7, 7, 7, 7, 7, 7, 7, 7, 7, 7, 7, 7, 7, 7, 7, 7, 7, 7, 7, 7, 7, 7, 7, 7, 7, 7, 7, 8, 8, 8, 8, 8, 8, 8, 8, 8, 8, 8, 8, 8, 8, 8, 8, 8, 8, 8, 8, 8, 8, 8, 8, 8, 8, 8, 8, 8, 8, 8, 8, 8, 8, 8, 8, 8, 8, 8, 8, 8, 8, 8, 8, 8, 8, 8, 8, 8, 8, 8, 8, 8, 8, 8, 8, 8, 8, 8, 8, 8, 8, 8, 8, 8, 8, 8, 8, 8, 8, 8, 8, 8, 8, 8, 8, 8, 8, 8, 8, 8, 8, 8, 8, 8, 8, 8, 8, 8, 8, 8, 8, 8, 8, 8, 8, 8, 8, 8, 8, 8, 8, 8, 8, 8, 8, 8, 8, 8, 8, 8, 8, 8, 8, 8, 8, 8, 8, 8, 8, 8, 8, 8, 8, 8, 8, 8, 8]⟩
def natural_trim_W (a : List Int) (Q : List Int → Prop) : Prop :=
  joinW (α := Int) (fun next1 =>
    loopW (σ := Int) (a.length : Int) fun n1 next2 =>
      condW (decide (0 < n1))
        (rng (n1 - 1) ∧
        ((0 : Int) ≤ (n1 - 1) ∧ (n1 - 1) < (a.length : Int)) ∧
        condW ((at' a (n1 - 1)) == 0)
          (rng (n1 - 1) ∧
          next2 (n1 - 1))
          (next1 n1))
        (next1 n1))
    fun n =>
    condW (n == 0)
      (Q [])
      (((0 : Int) ≤ 0 ∧ 0 ≤ n ∧ n ≤ (a.length : Int)) ∧
      (([] ++ (sub' a 0 n)).length * 4 ≤ 140737488355328) ∧
      Q ([] ++ (sub' a 0 n)))
def natural_Cmp_W (a : List Int) (b : List Int) (Q : Int → Prop) : Prop :=
  natural_trim_W a fun a1 =>
  natural_trim_W b fun b1 =>
  condW ((a1.length : Int) != (b1.length : Int))
    (condW (decide ((a1.length : Int) < (b1.length : Int)))
      (Q (-1))
      (Q 1))
    (rng ((a1.length : Int) - 1) ∧
    loopW (σ := Int) ((a1.length : Int) - 1) fun i next1 =>
      condW (decide (0 ≤ i))
        (((0 : Int) ≤ i ∧ i < (a1.length : Int)) ∧
        ((0 : Int) ≤ i ∧ i < (b1.length : Int)) ∧
        condW (decide ((at' a1 i) < (at' b1 i)))
          (Q (-1))
          (((0 : Int) ≤ i ∧ i < (a1.length : Int)) ∧
          ((0 : Int) ≤ i ∧ i < (b1.length : Int)) ∧
          condW (decide ((at' b1 i) < (at' a1 i)))
            (Q 1)
            (rng (i - 1) ∧
            next1 (i - 1))))
        (Q 0))
def natural_Of_W (n : Int) (Q : List Int → Prop) : Prop :=
  condW (decide (n ≤ 0))
    (Q [])
    (natural_trim_W [(IntKind.wrap .u32 n), (IntKind.wrap .u32 (n / 2 ^ (Int.toNat 32)))] fun r =>
    Q r)
def natural_small_W (a : List Int) (b : Int) (Q : List Int → Int → Prop) : Prop :=
  mkOk 4 (a.length : Int) (a.length : Int) ∧
  rng ((a.length : Int) - 1) ∧
  loopW (σ := Int × Int × (List Int)) (0, ((a.length : Int) - 1), (rep' (a.length : Int) 0)) fun ⟨rest, i, out⟩ next1 =>
    condW (decide (0 ≤ i))
      (((0 : Int) ≤ i ∧ i < (a.length : Int)) ∧
      setW (bits .or .u64 (IntKind.wrap .u64 (rest * 2 ^ (Int.toNat 32))) (IntKind.wrap .u64 (at' a i))) fun rest1 =>
      (IntKind.wrap .u64 b) ≠ 0 ∧
      ((0 : Int) ≤ i ∧ i < (out.length : Int)) ∧
      (IntKind.wrap .u64 b) ≠ 0 ∧
      rng (i - 1) ∧
      next1 ((Int.tmod rest1 (IntKind.wrap .u64 b)), (i - 1), (set' out i (IntKind.wrap .u32 (IntKind.wrap .u64 (Int.tdiv rest1 (IntKind.wrap .u64 b)))))))
      (natural_trim_W out fun r =>
      Q r (IntKind.wrap .u32 rest))
def math_bits_Len32_W (x : Int) (Q : Int → Prop) : Prop :=
  joinW (α := Int × Int) (fun next2 =>
    condW (decide (65536 ≤ x))
      (next2 ((x / 2 ^ (Int.toNat 16)), 16))
      (next2 (x, 0)))
    fun ⟨x1, n⟩ =>
    joinW (α := Int × Int) (fun next1 =>
      condW (decide (256 ≤ x1))
        (rng (n + 8) ∧
        next1 ((x1 / 2 ^ (Int.toNat 8)), (n + 8)))
        (next1 (x1, n)))
      fun ⟨x2, n1⟩ =>
      ((0 : Int) ≤ (IntKind.wrap .u8 x2) ∧ (IntKind.wrap .u8 x2) < (str_633d862b.size : Int)) ∧
      rng (n1 + (IntKind.wrap .i64 (byteAt str_633d862b (Int.toNat (IntKind.wrap .u8 x2))))) ∧
      setW (n1 + (IntKind.wrap .i64 (byteAt str_633d862b (Int.toNat (IntKind.wrap .u8 x2))))) fun n2 =>
      Q n2
def math_bits_LeadingZeros32_W (x : Int) (Q : Int → Prop) : Prop :=
  math_bits_Len32_W x fun r =>
  rng (32 - r) ∧
  Q (32 - r)
def natural_left_W (a : List Int) (n : Int) (Q : List Int → Prop) : Prop :=
  rng ((a.length : Int) + 1) ∧
  mkOk 4 ((a.length : Int) + 1) ((a.length : Int) + 1) ∧
  loopW (σ := Int × (List Int)) (0, (rep' ((a.length : Int) + 1) 0)) fun ⟨x, out⟩ next1 =>
    condW (decide (x < (a.length : Int)))
      (((0 : Int) ≤ x ∧ x < (a.length : Int)) ∧
      ((0 : Int) ≤ n ∧ n ≤ 64) ∧
      setW (IntKind.wrap .u64 ((IntKind.wrap .u64 (at' a x)) * 2 ^ (Int.toNat n))) fun y1 =>
      ((0 : Int) ≤ x ∧ x < (out.length : Int)) ∧
      ((0 : Int) ≤ x ∧ x < (out.length : Int)) ∧
      rng (x + 1) ∧
      ((0 : Int) ≤ (x + 1) ∧ (x + 1) < (out.length : Int)) ∧
      rng (x + 1) ∧
      next1 ((x + 1), (set' (set' out x (bits .or .u32 (at' out x) (IntKind.wrap .u32 y1))) (x + 1) (IntKind.wrap .u32 (y1 / 2 ^ (Int.toNat 32))))))
      (Q out)
def natural_word_W (a : List Int) (i : Int) (Q : Int → Prop) : Prop :=
  condW (decide (i < (a.length : Int)))
    (((0 : Int) ≤ i ∧ i < (a.length : Int)) ∧
    Q (IntKind.wrap .u64 (at' a i)))
    (Q 0)
def natural_take_W (u : List Int) (uo : Nat) (ul : Nat) (v : List Int) (n : Int) (Q : List Int → Bool → Prop) : Prop :=
  loopW (σ := Int × Int × Int × (List Int)) (0, 0, 0, u) fun ⟨carry, borrow, x, u1⟩ next1 =>
    condW (decide (x < (ul : Int)))
      (natural_word_W v x fun r =>
      setW (IntKind.wrap .u64 (carry + (IntKind.wrap .u64 (n * r)))) fun carry1 =>
      ((0 : Int) ≤ x ∧ x < (ul : Int)) ∧
      (Int.toNat ((uo : Int) + x)) < u1.length ∧
      setW (IntKind.wrap .u64 ((IntKind.wrap .u64 ((IntKind.wrap .u64 (at' u1 ((uo : Int) + x))) - (IntKind.wrap .u64 (IntKind.wrap .u32 carry1)))) - borrow)) fun d =>
      ((0 : Int) ≤ x ∧ x < (ul : Int)) ∧
      (Int.toNat ((uo : Int) + x)) < u1.length ∧
      rng (x + 1) ∧
      next1 ((carry1 / 2 ^ (Int.toNat 32)), (d / 2 ^ (Int.toNat 63)), (x + 1), (set' u1 ((uo : Int) + x) (IntKind.wrap .u32 d))))
      (Q u1 (borrow == 1))
def natural_give_W (u : List Int) (uo : Nat) (ul : Nat) (v : List Int) (Q : List Int → Prop) : Prop :=
  loopW (σ := Int × Int × (List Int)) (0, 0, u) fun ⟨carry, x, u1⟩ next1 =>
    condW (decide (x < (ul : Int)))
      (((0 : Int) ≤ x ∧ x < (ul : Int)) ∧
      (Int.toNat ((uo : Int) + x)) < u1.length ∧
      detW (natural_word_W v x) fun r =>
      ((0 : Int) ≤ x ∧ x < (ul : Int)) ∧
      (Int.toNat ((uo : Int) + x)) < u1.length ∧
      setW ((IntKind.wrap .u64 (carry + (IntKind.wrap .u64 ((IntKind.wrap .u64 (at' u1 ((uo : Int) + x))) + r)))) / 2 ^ (Int.toNat 32)) fun carry1 =>
      rng (x + 1) ∧
      next1 (carry1, (x + 1), (set' u1 ((uo : Int) + x) (IntKind.wrap .u32 (IntKind.wrap .u64 (carry + (IntKind.wrap .u64 ((IntKind.wrap .u64 (at' u1 ((uo : Int) + x))) + r))))))))
      (Q u1)
def natural_right_W (a : List Int) (n : Int) (Q : List Int → Prop) : Prop :=
  mkOk 4 (a.length : Int) (a.length : Int) ∧
  loopW (σ := Int × (List Int)) (0, (rep' (a.length : Int) 0)) fun ⟨x, out⟩ next1 =>
    condW (decide (x < (a.length : Int)))
      (natural_word_W a x fun r =>
      rng (x + 1) ∧
      natural_word_W a (x + 1) fun r1 =>
      ((0 : Int) ≤ n ∧ n ≤ 64) ∧
      ((0 : Int) ≤ x ∧ x < (out.length : Int)) ∧
      rng (x + 1) ∧
      next1 ((x + 1), (set' out x (IntKind.wrap .u32 ((bits .or .u64 r (IntKind.wrap .u64 (r1 * 2 ^ (Int.toNat 32)))) / 2 ^ (Int.toNat n))))))
      (Q out)
def natural_Div_W (a : List Int) (b : List Int) (Q : List Int → List Int → Option Int → Prop) : Prop :=
  natural_trim_W a fun a1 =>
  natural_trim_W b fun b1 =>
  condW ((b1.length : Int) == 0)
    (Q [] [] (some 8))
    (natural_Cmp_W a1 b1 fun r =>
    condW (decide (r < 0))
      (Q [] a1 none)
      (condW ((b1.length : Int) == 1)
        (((0 : Int) ≤ 0 ∧ 0 < (b1.length : Int)) ∧
        natural_small_W a1 (at' b1 0) fun r1 r2 =>
        natural_Of_W (IntKind.wrap .i64 r2) fun r3 =>
        Q r1 r3 none)
        (rng ((b1.length : Int) - 1) ∧
        ((0 : Int) ≤ ((b1.length : Int) - 1) ∧ ((b1.length : Int) - 1) < (b1.length : Int)) ∧
        math_bits_LeadingZeros32_W (at' b1 ((b1.length : Int) - 1)) fun n =>
        natural_left_W b1 n fun r4 =>
        ((0 : Int) ≤ 0 ∧ 0 ≤ (b1.length : Int) ∧ (b1.length : Int) ≤ (r4.length : Int)) ∧
        setW (sub' r4 0 (b1.length : Int)) fun v =>
        natural_left_W a1 n fun u =>
        rng ((v.length : Int) - 1) ∧
        ((0 : Int) ≤ ((v.length : Int) - 1) ∧ ((v.length : Int) - 1) < (v.length : Int)) ∧
        rng ((v.length : Int) - 2) ∧
        ((0 : Int) ≤ ((v.length : Int) - 2) ∧ ((v.length : Int) - 2) < (v.length : Int)) ∧
        rng ((u.length : Int) - (v.length : Int)) ∧
        mkOk 4 ((u.length : Int) - (v.length : Int)) ((u.length : Int) - (v.length : Int)) ∧
        rng (((Int.toNat ((u.length : Int) - (v.length : Int))) : Int) - 1) ∧
        setW (((Int.toNat ((u.length : Int) - (v.length : Int))) : Int) - 1) fun j =>
        loopW (σ := Int × (List Int) × (List Int)) (j, u, (rep' ((u.length : Int) - (v.length : Int)) 0)) fun ⟨j1, u1, q⟩ next1 =>
          condW (decide (0 ≤ j1))
            (rng (j1 + (v.length : Int)) ∧
            ((0 : Int) ≤ (j1 + (v.length : Int)) ∧ (j1 + (v.length : Int)) < (u1.length : Int)) ∧
            rng (j1 + (v.length : Int)) ∧
            rng ((j1 + (v.length : Int)) - 1) ∧
            ((0 : Int) ≤ ((j1 + (v.length : Int)) - 1) ∧ ((j1 + (v.length : Int)) - 1) < (u1.length : Int)) ∧
            (IntKind.wrap .u64 (at' v ((v.length : Int) - 1))) ≠ 0 ∧
            (IntKind.wrap .u64 (at' v ((v.length : Int) - 1))) ≠ 0 ∧
            joinW (α := Int) (fun next3 =>
              loopW (σ := Int × Int) ((IntKind.wrap .u64 (Int.tdiv (bits .or .u64 (IntKind.wrap .u64 ((IntKind.wrap .u64 (at' u1 (j1 + (v.length : Int)))) * 2 ^ (Int.toNat 32))) (IntKind.wrap .u64 (at' u1 ((j1 + (v.length : Int)) - 1)))) (IntKind.wrap .u64 (at' v ((v.length : Int) - 1))))), (Int.tmod (bits .or .u64 (IntKind.wrap .u64 ((IntKind.wrap .u64 (at' u1 (j1 + (v.length : Int)))) * 2 ^ (Int.toNat 32))) (IntKind.wrap .u64 (at' u1 ((j1 + (v.length : Int)) - 1)))) (IntKind.wrap .u64 (at' v ((v.length : Int) - 1))))) fun ⟨guess2, rest⟩ next4 =>
                joinW (α := Unit) (fun next5 =>
                  condW (decide (4294967296 ≤ guess2))
                    (next5 ())
                    (rng (j1 + (v.length : Int)) ∧
                    rng ((j1 + (v.length : Int)) - 2) ∧
                    ((0 : Int) ≤ ((j1 + (v.length : Int)) - 2) ∧ ((j1 + (v.length : Int)) - 2) < (u1.length : Int)) ∧
                    condW (decide ((bits .or .u64 (IntKind.wrap .u64 (rest * 2 ^ (Int.toNat 32))) (IntKind.wrap .u64 (at' u1 ((j1 + (v.length : Int)) - 2)))) < (IntKind.wrap .u64 (guess2 * (IntKind.wrap .u64 (at' v ((v.length : Int) - 2)))))))
                      (next5 ())
                      (next3 guess2)))
                  fun _ =>
                  setW (IntKind.wrap .u64 (rest + (IntKind.wrap .u64 (at' v ((v.length : Int) - 1))))) fun rest1 =>
                  condW (decide (4294967296 ≤ rest1))
                    (next3 (IntKind.wrap .u64 (guess2 - 1)))
                    (next4 ((IntKind.wrap .u64 (guess2 - 1)), rest1)))
              fun guess =>
              joinW (α := Int × (List Int)) (fun next2 =>
                rng (j1 + (v.length : Int)) ∧
                rng ((j1 + (v.length : Int)) + 1) ∧
                ((0 : Int) ≤ j1 ∧ j1 ≤ ((j1 + (v.length : Int)) + 1) ∧ ((j1 + (v.length : Int)) + 1) ≤ (u1.length : Int)) ∧
                natural_take_W u1 (0 + Int.toNat j1) (Int.toNat ((j1 + (v.length : Int)) + 1) - Int.toNat j1) v guess fun u3 r5 =>
                u3.length = u1.length ∧
                condW r5
                  (rng (j1 + (v.length : Int)) ∧
                  rng ((j1 + (v.length : Int)) + 1) ∧
                  ((0 : Int) ≤ j1 ∧ j1 ≤ ((j1 + (v.length : Int)) + 1) ∧ ((j1 + (v.length : Int)) + 1) ≤ (u1.length : Int)) ∧
                  natural_give_W u3 (0 + Int.toNat j1) (Int.toNat ((j1 + (v.length : Int)) + 1) - Int.toNat j1) v fun u4 =>
                  u4.length = u3.length ∧
                  next2 ((IntKind.wrap .u64 (guess - 1)), u4))
                  (next2 (guess, u3)))
                fun ⟨guess1, u2⟩ =>
                ((0 : Int) ≤ j1 ∧ j1 < (q.length : Int)) ∧
                rng (j1 - 1) ∧
                next1 ((j1 - 1), u2, (set' q j1 (IntKind.wrap .u32 guess1))))
            (natural_trim_W q fun q1 =>
            natural_right_W u1 n fun r6 =>
            natural_trim_W r6 fun r7 =>
            Q q1 r7 none))))
def natural_Gcd_W (a : List Int) (b : List Int) (Q : List Int → Prop) : Prop :=
  natural_trim_W a fun a1 =>
  natural_trim_W b fun b1 =>
  loopW (σ := (List Int) × (List Int)) (a1, b1) fun ⟨a2, b2⟩ next1 =>
    condW (decide (0 < (b2.length : Int)))
      (natural_Div_W a2 b2 fun _ r1 _ =>
      next1 (b2, r1))
      (Q a2)
def natural_Bits_W (a : List Int) (Q : Int → Prop) : Prop :=
  rng ((a.length : Int) - 1) ∧
  loopW (σ := Int) ((a.length : Int) - 1) fun i next1 =>
    condW (decide (0 ≤ i))
      (((0 : Int) ≤ i ∧ i < (a.length : Int)) ∧
      condW ((at' a i) != 0)
        (rng (32 * i) ∧
        ((0 : Int) ≤ i ∧ i < (a.length : Int)) ∧
        math_bits_Len32_W (at' a i) fun r =>
        rng ((32 * i) + r) ∧
        Q ((32 * i) + r))
        (rng (i - 1) ∧
        next1 (i - 1)))
      (Q 0)
def natural_Mul_W (a : List Int) (b : List Int) (Q : List Int → Prop) : Prop :=
  rng ((a.length : Int) + (b.length : Int)) ∧
  mkOk 4 ((a.length : Int) + (b.length : Int)) ((a.length : Int) + (b.length : Int)) ∧
  loopW (σ := Int × (List Int)) (0, (rep' ((a.length : Int) + (b.length : Int)) 0)) fun ⟨x, out⟩ next1 =>
    condW (decide (x < (a.length : Int)))
      (((0 : Int) ≤ x ∧ x < (a.length : Int)) ∧
      loopW (σ := Int × Int × (List Int)) (0, 0, out) fun ⟨carry, x1, out1⟩ next2 =>
        condW (decide (x1 < (b.length : Int)))
          (((0 : Int) ≤ x1 ∧ x1 < (b.length : Int)) ∧
          rng (x + x1) ∧
          ((0 : Int) ≤ (x + x1) ∧ (x + x1) < (out1.length : Int)) ∧
          setW (IntKind.wrap .u64 (carry + (IntKind.wrap .u64 ((IntKind.wrap .u64 ((IntKind.wrap .u64 (at' a x)) * (IntKind.wrap .u64 (at' b x1)))) + (IntKind.wrap .u64 (at' out1 (x + x1))))))) fun carry1 =>
          rng (x + x1) ∧
          ((0 : Int) ≤ (x + x1) ∧ (x + x1) < (out1.length : Int)) ∧
          rng (x1 + 1) ∧
          next2 ((carry1 / 2 ^ (Int.toNat 32)), (x1 + 1), (set' out1 (x + x1) (IntKind.wrap .u32 carry1))))
          (rng (x + (b.length : Int)) ∧
          ((0 : Int) ≤ (x + (b.length : Int)) ∧ (x + (b.length : Int)) < (out1.length : Int)) ∧
          rng (x + 1) ∧
          next1 ((x + 1), (set' out1 (x + (b.length : Int)) (IntKind.wrap .u32 carry)))))
      (natural_trim_W out fun r =>
      Q r)
def natural_Add_W (a : List Int) (b : List Int) (Q : List Int → Prop) : Prop :=
  rng ((max (a.length : Int) (b.length : Int)) + 1) ∧
  mkOk 4 ((max (a.length : Int) (b.length : Int)) + 1) ((max (a.length : Int) (b.length : Int)) + 1) ∧
  loopW (σ := Int × Int × (List Int)) (0, 0, (rep' ((max (a.length : Int) (b.length : Int)) + 1) 0)) fun ⟨carry, x, out⟩ next1 =>
    condW (decide (x < ((Int.toNat ((max (a.length : Int) (b.length : Int)) + 1)) : Int)))
      (natural_word_W a x fun r =>
      natural_word_W b x fun r1 =>
      setW (IntKind.wrap .u64 (carry + (IntKind.wrap .u64 (r + r1)))) fun carry1 =>
      ((0 : Int) ≤ x ∧ x < (out.length : Int)) ∧
      rng (x + 1) ∧
      next1 ((carry1 / 2 ^ (Int.toNat 32)), (x + 1), (set' out x (IntKind.wrap .u32 carry1))))
      (natural_trim_W out fun r2 =>
      Q r2)
def natural_Sub_W (a : List Int) (b : List Int) (Q : List Int → Option Int → Prop) : Prop :=
  natural_Cmp_W a b fun r =>
  condW (decide (r < 0))
    (Q [] (some 3))
    (mkOk 4 (a.length : Int) (a.length : Int) ∧
    loopW (σ := Int × Int × (List Int)) (0, 0, (rep' (a.length : Int) 0)) fun ⟨borrow, x, out⟩ next1 =>
      condW (decide (x < ((Int.toNat (a.length : Int)) : Int)))
        (natural_word_W a x fun r1 =>
        natural_word_W b x fun r2 =>
        setW (IntKind.wrap .u64 ((IntKind.wrap .u64 (r1 - r2)) - borrow)) fun d =>
        ((0 : Int) ≤ x ∧ x < (out.length : Int)) ∧
        rng (x + 1) ∧
        next1 ((d / 2 ^ (Int.toNat 63)), (x + 1), (set' out x (IntKind.wrap .u32 d))))
        (natural_trim_W out fun r3 =>
        Q r3 none))
def ref01_Bits_W (a : List Int) (Q : Int → Prop) : Prop :=
  loopW (σ := Int × Int) (0, 0) fun ⟨n, x⟩ next1 =>
    condW (decide (x < (a.length : Int)))
      (((0 : Int) ≤ x ∧ x < (a.length : Int)) ∧
      loopW (σ := Int × Int) (n, 0) fun ⟨n1, x1⟩ next2 =>
        condW (decide (x1 < 32))
          (((0 : Int) ≤ x1 ∧ x1 ≤ 32) ∧
          condW ((bits .and .u32 ((at' a x) / 2 ^ (Int.toNat x1)) 1) == 1)
            (rng (32 * x) ∧
            rng ((32 * x) + x1) ∧
            rng (((32 * x) + x1) + 1) ∧
            rng (x1 + 1) ∧
            next2 ((((32 * x) + x1) + 1), (x1 + 1)))
            (rng (x1 + 1) ∧
            next2 (n1, (x1 + 1))))
          (rng (x + 1) ∧
          next1 (n1, (x + 1))))
      (Q n)
def ref01_Trim_W (a : List Int) (Q : List Int → Prop) : Prop :=
  joinW (α := Int) (fun next1 =>
    loopW (σ := Int) (a.length : Int) fun n1 next2 =>
      condW (decide (0 < n1))
        (rng (n1 - 1) ∧
        ((0 : Int) ≤ (n1 - 1) ∧ (n1 - 1) < (a.length : Int)) ∧
        condW ((at' a (n1 - 1)) == 0)
          (rng (n1 - 1) ∧
          next2 (n1 - 1))
          (next1 n1))
        (next1 n1))
    fun n =>
    ((0 : Int) ≤ 0 ∧ 0 ≤ n ∧ n ≤ (a.length : Int)) ∧
    (([] ++ (sub' a 0 n)).length * 4 ≤ 140737488355328) ∧
    Q ([] ++ (sub' a 0 n))
def ref01_word_W (a : List Int) (i : Int) (Q : Int → Prop) : Prop :=
  condW (decide (i < (a.length : Int)))
    (((0 : Int) ≤ i ∧ i < (a.length : Int)) ∧
    Q (IntKind.wrap .u64 (at' a i)))
    (Q 0)
def ref01_Mul_W (a : List Int) (b : List Int) (Q : List Int → Prop) : Prop :=
  rng ((a.length : Int) + (b.length : Int)) ∧
  rng (((a.length : Int) + (b.length : Int)) + 1) ∧
  mkOk 4 (((a.length : Int) + (b.length : Int)) + 1) (((a.length : Int) + (b.length : Int)) + 1) ∧
  loopW (σ := Int × (List Int)) (0, (rep' (((a.length : Int) + (b.length : Int)) + 1) 0)) fun ⟨x, out⟩ next1 =>
    condW (decide (x < (a.length : Int)))
      (((0 : Int) ≤ x ∧ x < (a.length : Int)) ∧
      rng ((b.length : Int) + 1) ∧
      loopW (σ := Int × Int × (List Int)) (0, 0, out) fun ⟨carry, x1, out1⟩ next2 =>
        condW (decide (x1 < ((b.length : Int) + 1)))
          (detW (ref01_word_W b x1) fun r =>
          rng (x + x1) ∧
          ((0 : Int) ≤ (x + x1) ∧ (x + x1) < (out1.length : Int)) ∧
          rng (x + x1) ∧
          ((0 : Int) ≤ (x + x1) ∧ (x + x1) < (out1.length : Int)) ∧
          setW ((IntKind.wrap .u64 ((IntKind.wrap .u64 ((IntKind.wrap .u64 ((IntKind.wrap .u64 (at' a x)) * r)) + (IntKind.wrap .u64 (at' out1 (x + x1))))) + carry)) / 2 ^ (Int.toNat 32)) fun carry1 =>
          rng (x1 + 1) ∧
          next2 (carry1, (x1 + 1), (set' out1 (x + x1) (IntKind.wrap .u32 (IntKind.wrap .u64 ((IntKind.wrap .u64 ((IntKind.wrap .u64 ((IntKind.wrap .u64 (at' a x)) * r)) + (IntKind.wrap .u64 (at' out1 (x + x1))))) + carry))))))
          (rng (x + 1) ∧
          next1 ((x + 1), out1)))
      (ref01_Trim_W out fun r1 =>
      Q r1)
def ref01_Cmp_W (a : List Int) (b : List Int) (Q : Int → Prop) : Prop :=
  rng ((max (a.length : Int) (b.length : Int)) - 1) ∧
  setW ((max (a.length : Int) (b.length : Int)) - 1) fun i =>
  loopW (σ := Int) i fun i1 next1 =>
    condW (decide (0 ≤ i1))
      (ref01_word_W a i1 fun r =>
      ref01_word_W b i1 fun r1 =>
      condW (decide (r < r1))
        (Q (-1))
        (ref01_word_W a i1 fun r2 =>
        ref01_word_W b i1 fun r3 =>
        condW (decide (r3 < r2))
          (Q 1)
          (rng (i1 - 1) ∧
          next1 (i1 - 1))))
      (Q 0)
def ref01_Sub_W (a : List Int) (b : List Int) (Q : List Int → Int → Prop) : Prop :=
  ref01_Cmp_W a b fun r =>
  condW (decide (r < 0))
    (Q [] 3)
    (loopW (σ := Int × Int × (List Int)) (0, 0, []) fun ⟨borrow, x, out⟩ next1 =>
      condW (decide (x < (a.length : Int)))
        (ref01_word_W a x fun r1 =>
        ref01_word_W b x fun r2 =>
        setW (IntKind.wrap .u64 ((IntKind.wrap .u64 (r1 - r2)) - borrow)) fun s =>
        ((out ++ [(IntKind.wrap .u32 s)]).length * 4 ≤ 140737488355328) ∧
        rng (x + 1) ∧
        next1 ((s / 2 ^ (Int.toNat 63)), (x + 1), (out ++ [(IntKind.wrap .u32 s)])))
        (ref01_Trim_W out fun r3 =>
        Q r3 0))
def ref01_up_W (a : List Int) (s : Int) (Q : List Int → Prop) : Prop :=
  loopW (σ := Int × Int × (List Int)) (0, 0, []) fun ⟨carry, x, out⟩ next1 =>
    condW (decide (x < (a.length : Int)))
      (((0 : Int) ≤ x ∧ x < (a.length : Int)) ∧
      ((0 : Int) ≤ s ∧ s ≤ 64) ∧
      setW (bits .or .u64 carry (IntKind.wrap .u64 ((IntKind.wrap .u64 (at' a x)) * 2 ^ (Int.toNat s)))) fun carry1 =>
      ((out ++ [(IntKind.wrap .u32 carry1)]).length * 4 ≤ 140737488355328) ∧
      rng (x + 1) ∧
      next1 ((carry1 / 2 ^ (Int.toNat 32)), (x + 1), (out ++ [(IntKind.wrap .u32 carry1)])))
      (((out ++ [(IntKind.wrap .u32 carry)]).length * 4 ≤ 140737488355328) ∧
      ref01_Trim_W (out ++ [(IntKind.wrap .u32 carry)]) fun r =>
      Q r)
def ref01_down_W (a : List Int) (s : Int) (Q : List Int → Prop) : Prop :=
  loopW (σ := Int × (List Int)) (0, []) fun ⟨x, out⟩ next1 =>
    condW (decide (x < (a.length : Int)))
      (ref01_word_W a x fun r =>
      rng (x + 1) ∧
      ref01_word_W a (x + 1) fun r1 =>
      ((0 : Int) ≤ s ∧ s ≤ 64) ∧
      ((out ++ [(IntKind.wrap .u32 ((bits .or .u64 r (IntKind.wrap .u64 (r1 * 2 ^ (Int.toNat 32)))) / 2 ^ (Int.toNat s)))]).length * 4 ≤ 140737488355328) ∧
      rng (x + 1) ∧
      next1 ((x + 1), (out ++ [(IntKind.wrap .u32 ((bits .or .u64 r (IntKind.wrap .u64 (r1 * 2 ^ (Int.toNat 32)))) / 2 ^ (Int.toNat s)))])))
      (ref01_Trim_W out fun r2 =>
      Q r2)
def ref01_Div_W (a : List Int) (b : List Int) (Q : List Int → List Int → Int → Prop) : Prop :=
  ref01_Trim_W b fun b1 =>
  condW ((b1.length : Int) == 0)
    (Q [] [] 8)
    (loopW (σ := Int) 0 fun s next1 =>
      rng ((b1.length : Int) - 1) ∧
      ((0 : Int) ≤ ((b1.length : Int) - 1) ∧ ((b1.length : Int) - 1) < (b1.length : Int)) ∧
      ((0 : Int) ≤ s ∧ s ≤ 32) ∧
      condW ((bits .and .u32 (IntKind.wrap .u32 ((at' b1 ((b1.length : Int) - 1)) * 2 ^ (Int.toNat s))) 2147483648) == 0)
        (rng (s + 1) ∧
        next1 (s + 1))
        (ref01_up_W a s fun a1 =>
        ref01_up_W b1 s fun b2 =>
        mkOk 4 (a1.length : Int) (a1.length : Int) ∧
        rng ((a1.length : Int) - (b1.length : Int)) ∧
        rng (((a1.length : Int) - (b1.length : Int)) + 1) ∧
        ((0 : Int) ≤ (max 0 (((a1.length : Int) - (b1.length : Int)) + 1)) ∧ (max 0 (((a1.length : Int) - (b1.length : Int)) + 1)) ≤ (a1.length : Int) ∧ (a1.length : Int) ≤ (a1.length : Int)) ∧
        (([] ++ (sub' a1 (max 0 (((a1.length : Int) - (b1.length : Int)) + 1)) (a1.length : Int))).length * 4 ≤ 140737488355328) ∧
        rng ((a1.length : Int) - (b1.length : Int)) ∧
        loopW (σ := (List Int) × Int × (List Int)) (([] ++ (sub' a1 (max 0 (((a1.length : Int) - (b1.length : Int)) + 1)) (a1.length : Int))), ((a1.length : Int) - (b1.length : Int)), (rep' (a1.length : Int) 0)) fun ⟨r, i, q⟩ next2 =>
          condW (decide (0 ≤ i))
            (((0 : Int) ≤ i ∧ i < (a1.length : Int)) ∧
            (([(at' a1 i)] ++ r).length * 4 ≤ 140737488355328) ∧
            ref01_Trim_W ([(at' a1 i)] ++ r) fun r1 =>
            ref01_word_W r1 (b1.length : Int) fun r2 =>
            rng ((b1.length : Int) - 1) ∧
            ref01_word_W r1 ((b1.length : Int) - 1) fun r3 =>
            rng ((b1.length : Int) - 1) ∧
            ref01_word_W b2 ((b1.length : Int) - 1) fun r4 =>
            r4 ≠ 0 ∧
            setW (min (IntKind.wrap .u64 (Int.tdiv (bits .or .u64 (IntKind.wrap .u64 (r2 * 2 ^ (Int.toNat 32))) r3) r4)) 4294967295) fun guess =>
            ref01_Mul_W b2 [(IntKind.wrap .u32 guess)] fun p =>
            loopW (σ := Int × (List Int)) (guess, p) fun ⟨guess1, p1⟩ next3 =>
              ref01_Cmp_W p1 r1 fun r5 =>
              condW (decide (0 < r5))
                (ref01_Sub_W p1 b2 fun r6 _ =>
                next3 ((IntKind.wrap .u64 (guess1 - 1)), r6))
                (ref01_Sub_W r1 p1 fun r8 _ =>
                ((0 : Int) ≤ i ∧ i < (q.length : Int)) ∧
                rng (i - 1) ∧
                next2 (r8, (i - 1), (set' q i (IntKind.wrap .u32 guess1)))))
            (ref01_Trim_W q fun r10 =>
            ref01_down_W r s fun r11 =>
            Q r10 r11 0)))
def ref01_Gcd_W (a : List Int) (b : List Int) (Q : List Int → Prop) : Prop :=
  ref01_Trim_W a fun a1 =>
  ref01_Trim_W b fun b1 =>
  loopW (σ := (List Int) × (List Int)) (a1, b1) fun ⟨a2, b2⟩ next1 =>
    condW (decide (0 < (b2.length : Int)))
      (ref01_Div_W a2 b2 fun _ r1 _ =>
      next1 (b2, r1))
      (Q a2)
def ref01_Add_W (a : List Int) (b : List Int) (Q : List Int → Prop) : Prop :=
  rng ((max (a.length : Int) (b.length : Int)) + 1) ∧
  loopW (σ := Int × Int × (List Int)) (0, 0, []) fun ⟨carry, x, out⟩ next1 =>
    condW (decide (x < ((max (a.length : Int) (b.length : Int)) + 1)))
      (ref01_word_W a x fun r =>
      ref01_word_W b x fun r1 =>
      setW (IntKind.wrap .u64 ((IntKind.wrap .u64 (r + r1)) + carry)) fun s =>
      ((out ++ [(IntKind.wrap .u32 s)]).length * 4 ≤ 140737488355328) ∧
      rng (x + 1) ∧
      next1 ((s / 2 ^ (Int.toNat 32)), (x + 1), (out ++ [(IntKind.wrap .u32 s)])))
      (ref01_Trim_W out fun r2 =>
      Q r2)
end Go.Gg
