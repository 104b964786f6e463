/- The structures of the program and how they are encoded. Conditions: none. -/
import Derived.Test.YtiamkdpljeemkaaGc
import Derived.Test.YtiamkdpljeemkaaGf
import Derived.Test.YtiamkdpljeemkaaGd
/- The structures of the program and how they are encoded. Conditions: none. -/
namespace Go.Gg
structure GNode where
  Kind : Int
  K : Int
  Args : List Int
instance : Inhabited GNode := ⟨⟨0, 0, []⟩⟩
def eNode (r : GNode) : AV := .agg [.int .i64 r.Kind, .int .i64 r.K, eL (AV.int .i64) r.Args]
structure GFormula where
  Vars : Int
  Nodes : List GNode
  Top : Int
instance : Inhabited GFormula := ⟨⟨0, [], 0⟩⟩
def eFormula (r : GFormula) : AV := .agg [.int .i64 r.Vars, eL eNode r.Nodes, .int .i64 r.Top]
structure GDNode where
  Var : Int
  Lo : Int
  Hi : Int
instance : Inhabited GDNode := ⟨⟨0, 0, 0⟩⟩
structure GDiagram where
  Order : List Int
  Nodes : List GDNode
  Root : Int
instance : Inhabited GDiagram := ⟨⟨[], [], 0⟩⟩
structure GCube where
  Yes : Int
  No : Int
instance : Inhabited GCube := ⟨⟨0, 0⟩⟩
structure GRat where
  Neg : Bool
  Num : List Int
  Den : List Int
instance : Inhabited GRat := ⟨⟨false, [], []⟩⟩
def eRat (r : GRat) : AV := .agg [.bool r.Neg, eL (AV.int .u32) r.Num, eL (AV.int .u32) r.Den]
structure Gwalk where
  Formula : GFormula
  events : List Int
  seen : List Bool
instance : Inhabited Gwalk := ⟨⟨default, [], []⟩⟩
end Go.Gg
/- Formulas of functions. Conditions: none. -/
namespace Go.Gg
def str_633d862b : ByteArray := ⟨#[0, 1, 2, 2, 3, 3, 3, 3, 4, 4, 4, 4, 4, 4, 4, 4, 5, 5, 5, 5, 5, 5, 5, 5, 5, 5, 5, 5, 5, 5, 5, 5, 6, 6, 6, 6, 6, 6, 6, 6, 6, 6, 6, 6, 6, 6, 6, 6, 6, 6, 6, 6, 6, 6, 6, 6, 6, 6, 6, 6, 6, 6, 6, 6, 7, 7, 7, 7, 7, 7, 7, 7, 7, 7, 7, 7, 7, 7, 7, 7, 7, 7, 7, 7, 7, 7, 7, 7, 7, 7, 7, 7, 7, 7, 7, 7, 7, 7, 7, 7, 7, 7, 7, 7, 7, 7, 7, 7, 7, 7, 7, 7, 7, 7, 7, 7, 7, 7, 7, 7, 7, 7, 7, 7, 7, 7, 7, 7, 8, 8, 8, 8, 8, 8, 8, 8, 8, 8, 8, 8, 8, 8, 8, 8, 8, 8, 8, 8, 8, 8, 8, 8, 8, 8, 8, 8, 8, 8, 8, 8, 8, 8, 8, 8, 8, 8, 8, 8, 8, 8, 8, 8, 8, 8, 8, 8, 8, 8, 8, 8, 8, 8, 8, 8, 8, 8, 8, 8, 8, 8, 8, 8, 8, 8, 8, 8, 8, 8, 8, 8, 8, 8, 8, 8, 8, 8, 8, 8, 8, 8, 8, 8, 8, 8, 8, 8, 8, 8, 8, 8, 8, 8, 8, 8, 8, 8, 8, 8, 8, 8, 8, 8, 8, 8, 8, 8, 8, 8, 8, 8, 8, 8, 8, 8, 8, 8, 8, 8, 8, 8, 8, 8, 8, 8, 8, 8]⟩
def math_bits_Len32_W (x : Int) (Q : Int → Prop) : Prop :=
  joinW (α := Int × Int) (fun next2 =>
    condW (decide (65536 ≤ x))
      (next2 ((x / 2 ^ (Int.toNat 16)), 16))
      (next2 (x, 0)))
    fun ⟨x1, n⟩ =>
    joinW (α := Int × Int) (fun next1 =>
      condW (decide (256 ≤ x1))
        (rng (n + 8) ∧
        next1 ((x1 / 2 ^ (Int.toNat 8)), (n + 8)))
        (next1 (x1, n)))
      fun ⟨x2, n1⟩ =>
      ((0 : Int) ≤ (IntKind.wrap .u8 x2) ∧ (IntKind.wrap .u8 x2) < (str_633d862b.size : Int)) ∧
      rng (n1 + (IntKind.wrap .i64 (byteAt str_633d862b (Int.toNat (IntKind.wrap .u8 x2))))) ∧
      setW (n1 + (IntKind.wrap .i64 (byteAt str_633d862b (Int.toNat (IntKind.wrap .u8 x2))))) fun n2 =>
      Q n2
def natural_Bits_W (a : List Int) (Q : Int → Prop) : Prop :=
  rng ((a.length : Int) - 1) ∧
  loopW (σ := Int) ((a.length : Int) - 1) fun i next1 =>
    condW (decide (0 ≤ i))
      (((0 : Int) ≤ i ∧ i < (a.length : Int)) ∧
      condW ((at' a i) != 0)
        (rng (32 * i) ∧
        ((0 : Int) ≤ i ∧ i < (a.length : Int)) ∧
        math_bits_Len32_W (at' a i) fun r =>
        rng ((32 * i) + r) ∧
        Q ((32 * i) + r))
        (rng (i - 1) ∧
        next1 (i - 1)))
      (Q 0)
def natural_trim_W (a : List Int) (Q : List Int → Prop) : Prop :=
  joinW (α := Int) (fun next1 =>
    loopW (σ := Int) (a.length : Int) fun n1 next2 =>
      condW (decide (0 < n1))
        (rng (n1 - 1) ∧
        ((0 : Int) ≤ (n1 - 1) ∧ (n1 - 1) < (a.length : Int)) ∧
        condW ((at' a (n1 - 1)) == 0)
          (rng (n1 - 1) ∧
          next2 (n1 - 1))
          (next1 n1))
        (next1 n1))
    fun n =>
    condW (n == 0)
      (Q [])
      (((0 : Int) ≤ 0 ∧ 0 ≤ n ∧ n ≤ (a.length : Int)) ∧
      (([] ++ (sub' a 0 n)).length * 4 ≤ 140737488355328) ∧
      Q ([] ++ (sub' a 0 n)))
def natural_Cmp_W (a : List Int) (b : List Int) (Q : Int → Prop) : Prop :=
  natural_trim_W a fun a1 =>
  natural_trim_W b fun b1 =>
  condW ((a1.length : Int) != (b1.length : Int))
    (condW (decide ((a1.length : Int) < (b1.length : Int)))
      (Q (-1))
      (Q 1))
    (rng ((a1.length : Int) - 1) ∧
    loopW (σ := Int) ((a1.length : Int) - 1) fun i next1 =>
      condW (decide (0 ≤ i))
        (((0 : Int) ≤ i ∧ i < (a1.length : Int)) ∧
        ((0 : Int) ≤ i ∧ i < (b1.length : Int)) ∧
        condW (decide ((at' a1 i) < (at' b1 i)))
          (Q (-1))
          (((0 : Int) ≤ i ∧ i < (a1.length : Int)) ∧
          ((0 : Int) ≤ i ∧ i < (b1.length : Int)) ∧
          condW (decide ((at' b1 i) < (at' a1 i)))
            (Q 1)
            (rng (i - 1) ∧
            next1 (i - 1))))
        (Q 0))
def natural_Of_W (n : Int) (Q : List Int → Prop) : Prop :=
  condW (decide (n ≤ 0))
    (Q [])
    (natural_trim_W [(IntKind.wrap .u32 n), (IntKind.wrap .u32 (n / 2 ^ (Int.toNat 32)))] fun r =>
    Q r)
def natural_small_W (a : List Int) (b : Int) (Q : List Int → Int → Prop) : Prop :=
  mkOk 4 (a.length : Int) (a.length : Int) ∧
  rng ((a.length : Int) - 1) ∧
  loopW (σ := Int × Int × (List Int)) (0, ((a.length : Int) - 1), (rep' (a.length : Int) 0)) fun ⟨rest, i, out⟩ next1 =>
    condW (decide (0 ≤ i))
      (((0 : Int) ≤ i ∧ i < (a.length : Int)) ∧
      setW (bits .or .u64 (IntKind.wrap .u64 (rest * 2 ^ (Int.toNat 32))) (IntKind.wrap .u64 (at' a i))) fun rest1 =>
      (IntKind.wrap .u64 b) ≠ 0 ∧
      ((0 : Int) ≤ i ∧ i < (out.length : Int)) ∧
      (IntKind.wrap .u64 b) ≠ 0 ∧
      rng (i - 1) ∧
      next1 ((Int.tmod rest1 (IntKind.wrap .u64 b)), (i - 1), (set' out i (IntKind.wrap .u32 (IntKind.wrap .u64 (Int.tdiv rest1 (IntKind.wrap .u64 b)))))))
      (natural_trim_W out fun r =>
      Q r (IntKind.wrap .u32 rest))
def math_bits_LeadingZeros32_W (x : Int) (Q : Int → Prop) : Prop :=
  math_bits_Len32_W x fun r =>
  rng (32 - r) ∧
  Q (32 - r)
def natural_left_W (a : List Int) (n : Int) (Q : List Int → Prop) : Prop :=
  rng ((a.length : Int) + 1) ∧
  mkOk 4 ((a.length : Int) + 1) ((a.length : Int) + 1) ∧
  loopW (σ := Int × (List Int)) (0, (rep' ((a.length : Int) + 1) 0)) fun ⟨x, out⟩ next1 =>
    condW (decide (x < (a.length : Int)))
      (((0 : Int) ≤ x ∧ x < (a.length : Int)) ∧
      ((0 : Int) ≤ n ∧ n ≤ 64) ∧
      setW (IntKind.wrap .u64 ((IntKind.wrap .u64 (at' a x)) * 2 ^ (Int.toNat n))) fun y1 =>
      ((0 : Int) ≤ x ∧ x < (out.length : Int)) ∧
      ((0 : Int) ≤ x ∧ x < (out.length : Int)) ∧
      rng (x + 1) ∧
      ((0 : Int) ≤ (x + 1) ∧ (x + 1) < (out.length : Int)) ∧
      rng (x + 1) ∧
      next1 ((x + 1), (set' (set' out x (bits .or .u32 (at' out x) (IntKind.wrap .u32 y1))) (x + 1) (IntKind.wrap .u32 (y1 / 2 ^ (Int.toNat 32))))))
      (Q out)
def natural_word_W (a : List Int) (i : Int) (Q : Int → Prop) : Prop :=
  condW (decide (i < (a.length : Int)))
    (((0 : Int) ≤ i ∧ i < (a.length : Int)) ∧
    Q (IntKind.wrap .u64 (at' a i)))
    (Q 0)
def natural_take_W (u : List Int) (uo : Nat) (ul : Nat) (v : List Int) (n : Int) (Q : List Int → Bool → Prop) : Prop :=
  loopW (σ := Int × Int × Int × (List Int)) (0, 0, 0, u) fun ⟨carry, borrow, x, u1⟩ next1 =>
    condW (decide (x < (ul : Int)))
      (natural_word_W v x fun r =>
      setW (IntKind.wrap .u64 (carry + (IntKind.wrap .u64 (n * r)))) fun carry1 =>
      ((0 : Int) ≤ x ∧ x < (ul : Int)) ∧
      (Int.toNat ((uo : Int) + x)) < u1.length ∧
      setW (IntKind.wrap .u64 ((IntKind.wrap .u64 ((IntKind.wrap .u64 (at' u1 ((uo : Int) + x))) - (IntKind.wrap .u64 (IntKind.wrap .u32 carry1)))) - borrow)) fun d =>
      ((0 : Int) ≤ x ∧ x < (ul : Int)) ∧
      (Int.toNat ((uo : Int) + x)) < u1.length ∧
      rng (x + 1) ∧
      next1 ((carry1 / 2 ^ (Int.toNat 32)), (d / 2 ^ (Int.toNat 63)), (x + 1), (set' u1 ((uo : Int) + x) (IntKind.wrap .u32 d))))
      (Q u1 (borrow == 1))
def natural_give_W (u : List Int) (uo : Nat) (ul : Nat) (v : List Int) (Q : List Int → Prop) : Prop :=
  loopW (σ := Int × Int × (List Int)) (0, 0, u) fun ⟨carry, x, u1⟩ next1 =>
    condW (decide (x < (ul : Int)))
      (((0 : Int) ≤ x ∧ x < (ul : Int)) ∧
      (Int.toNat ((uo : Int) + x)) < u1.length ∧
      detW (natural_word_W v x) fun r =>
      ((0 : Int) ≤ x ∧ x < (ul : Int)) ∧
      (Int.toNat ((uo : Int) + x)) < u1.length ∧
      setW ((IntKind.wrap .u64 (carry + (IntKind.wrap .u64 ((IntKind.wrap .u64 (at' u1 ((uo : Int) + x))) + r)))) / 2 ^ (Int.toNat 32)) fun carry1 =>
      rng (x + 1) ∧
      next1 (carry1, (x + 1), (set' u1 ((uo : Int) + x) (IntKind.wrap .u32 (IntKind.wrap .u64 (carry + (IntKind.wrap .u64 ((IntKind.wrap .u64 (at' u1 ((uo : Int) + x))) + r))))))))
      (Q u1)
def natural_right_W (a : List Int) (n : Int) (Q : List Int → Prop) : Prop :=
  mkOk 4 (a.length : Int) (a.length : Int) ∧
  loopW (σ := Int × (List Int)) (0, (rep' (a.length : Int) 0)) fun ⟨x, out⟩ next1 =>
    condW (decide (x < (a.length : Int)))
      (natural_word_W a x fun r =>
      rng (x + 1) ∧
      natural_word_W a (x + 1) fun r1 =>
      ((0 : Int) ≤ n ∧ n ≤ 64) ∧
      ((0 : Int) ≤ x ∧ x < (out.length : Int)) ∧
      rng (x + 1) ∧
      next1 ((x + 1), (set' out x (IntKind.wrap .u32 ((bits .or .u64 r (IntKind.wrap .u64 (r1 * 2 ^ (Int.toNat 32)))) / 2 ^ (Int.toNat n))))))
      (Q out)
def natural_Div_W (a : List Int) (b : List Int) (Q : List Int → List Int → Option Int → Prop) : Prop :=
  natural_trim_W a fun a1 =>
  natural_trim_W b fun b1 =>
  condW ((b1.length : Int) == 0)
    (Q [] [] (some 8))
    (natural_Cmp_W a1 b1 fun r =>
    condW (decide (r < 0))
      (Q [] a1 none)
      (condW ((b1.length : Int) == 1)
        (((0 : Int) ≤ 0 ∧ 0 < (b1.length : Int)) ∧
        natural_small_W a1 (at' b1 0) fun r1 r2 =>
        natural_Of_W (IntKind.wrap .i64 r2) fun r3 =>
        Q r1 r3 none)
        (rng ((b1.length : Int) - 1) ∧
        ((0 : Int) ≤ ((b1.length : Int) - 1) ∧ ((b1.length : Int) - 1) < (b1.length : Int)) ∧
        math_bits_LeadingZeros32_W (at' b1 ((b1.length : Int) - 1)) fun n =>
        natural_left_W b1 n fun r4 =>
        ((0 : Int) ≤ 0 ∧ 0 ≤ (b1.length : Int) ∧ (b1.length : Int) ≤ (r4.length : Int)) ∧
        setW (sub' r4 0 (b1.length : Int)) fun v =>
        natural_left_W a1 n fun u =>
        rng ((v.length : Int) - 1) ∧
        ((0 : Int) ≤ ((v.length : Int) - 1) ∧ ((v.length : Int) - 1) < (v.length : Int)) ∧
        rng ((v.length : Int) - 2) ∧
        ((0 : Int) ≤ ((v.length : Int) - 2) ∧ ((v.length : Int) - 2) < (v.length : Int)) ∧
        rng ((u.length : Int) - (v.length : Int)) ∧
        mkOk 4 ((u.length : Int) - (v.length : Int)) ((u.length : Int) - (v.length : Int)) ∧
        rng (((Int.toNat ((u.length : Int) - (v.length : Int))) : Int) - 1) ∧
        setW (((Int.toNat ((u.length : Int) - (v.length : Int))) : Int) - 1) fun j =>
        loopW (σ := Int × (List Int) × (List Int)) (j, u, (rep' ((u.length : Int) - (v.length : Int)) 0)) fun ⟨j1, u1, q⟩ next1 =>
          condW (decide (0 ≤ j1))
            (rng (j1 + (v.length : Int)) ∧
            ((0 : Int) ≤ (j1 + (v.length : Int)) ∧ (j1 + (v.length : Int)) < (u1.length : Int)) ∧
            rng (j1 + (v.length : Int)) ∧
            rng ((j1 + (v.length : Int)) - 1) ∧
            ((0 : Int) ≤ ((j1 + (v.length : Int)) - 1) ∧ ((j1 + (v.length : Int)) - 1) < (u1.length : Int)) ∧
            (IntKind.wrap .u64 (at' v ((v.length : Int) - 1))) ≠ 0 ∧
            (IntKind.wrap .u64 (at' v ((v.length : Int) - 1))) ≠ 0 ∧
            joinW (α := Int) (fun next3 =>
              loopW (σ := Int × Int) ((IntKind.wrap .u64 (Int.tdiv (bits .or .u64 (IntKind.wrap .u64 ((IntKind.wrap .u64 (at' u1 (j1 + (v.length : Int)))) * 2 ^ (Int.toNat 32))) (IntKind.wrap .u64 (at' u1 ((j1 + (v.length : Int)) - 1)))) (IntKind.wrap .u64 (at' v ((v.length : Int) - 1))))), (Int.tmod (bits .or .u64 (IntKind.wrap .u64 ((IntKind.wrap .u64 (at' u1 (j1 + (v.length : Int)))) * 2 ^ (Int.toNat 32))) (IntKind.wrap .u64 (at' u1 ((j1 + (v.length : Int)) - 1)))) (IntKind.wrap .u64 (at' v ((v.length : Int) - 1))))) fun ⟨guess2, rest⟩ next4 =>
                joinW (α := Unit) (fun next5 =>
                  condW (decide (4294967296 ≤ guess2))
                    (next5 ())
                    (rng (j1 + (v.length : Int)) ∧
                    rng ((j1 + (v.length : Int)) - 2) ∧
                    ((0 : Int) ≤ ((j1 + (v.length : Int)) - 2) ∧ ((j1 + (v.length : Int)) - 2) < (u1.length : Int)) ∧
                    condW (decide ((bits .or .u64 (IntKind.wrap .u64 (rest * 2 ^ (Int.toNat 32))) (IntKind.wrap .u64 (at' u1 ((j1 + (v.length : Int)) - 2)))) < (IntKind.wrap .u64 (guess2 * (IntKind.wrap .u64 (at' v ((v.length : Int) - 2)))))))
                      (next5 ())
                      (next3 guess2)))
                  fun _ =>
                  setW (IntKind.wrap .u64 (rest + (IntKind.wrap .u64 (at' v ((v.length : Int) - 1))))) fun rest1 =>
                  condW (decide (4294967296 ≤ rest1))
                    (next3 (IntKind.wrap .u64 (guess2 - 1)))
                    (next4 ((IntKind.wrap .u64 (guess2 - 1)), rest1)))
              fun guess =>
              joinW (α := Int × (List Int)) (fun next2 =>
                rng (j1 + (v.length : Int)) ∧
                rng ((j1 + (v.length : Int)) + 1) ∧
                ((0 : Int) ≤ j1 ∧ j1 ≤ ((j1 + (v.length : Int)) + 1) ∧ ((j1 + (v.length : Int)) + 1) ≤ (u1.length : Int)) ∧
                natural_take_W u1 (0 + Int.toNat j1) (Int.toNat ((j1 + (v.length : Int)) + 1) - Int.toNat j1) v guess fun u3 r5 =>
                u3.length = u1.length ∧
                condW r5
                  (rng (j1 + (v.length : Int)) ∧
                  rng ((j1 + (v.length : Int)) + 1) ∧
                  ((0 : Int) ≤ j1 ∧ j1 ≤ ((j1 + (v.length : Int)) + 1) ∧ ((j1 + (v.length : Int)) + 1) ≤ (u1.length : Int)) ∧
                  natural_give_W u3 (0 + Int.toNat j1) (Int.toNat ((j1 + (v.length : Int)) + 1) - Int.toNat j1) v fun u4 =>
                  u4.length = u3.length ∧
                  next2 ((IntKind.wrap .u64 (guess - 1)), u4))
                  (next2 (guess, u3)))
                fun ⟨guess1, u2⟩ =>
                ((0 : Int) ≤ j1 ∧ j1 < (q.length : Int)) ∧
                rng (j1 - 1) ∧
                next1 ((j1 - 1), u2, (set' q j1 (IntKind.wrap .u32 guess1))))
            (natural_trim_W q fun q1 =>
            natural_right_W u1 n fun r6 =>
            natural_trim_W r6 fun r7 =>
            Q q1 r7 none))))
def natural_Gcd_W (a : List Int) (b : List Int) (Q : List Int → Prop) : Prop :=
  natural_trim_W a fun a1 =>
  natural_trim_W b fun b1 =>
  loopW (σ := (List Int) × (List Int)) (a1, b1) fun ⟨a2, b2⟩ next1 =>
    condW (decide (0 < (b2.length : Int)))
      (natural_Div_W a2 b2 fun _ r1 _ =>
      next1 (b2, r1))
      (Q a2)
def natural_Mul_W (a : List Int) (b : List Int) (Q : List Int → Prop) : Prop :=
  rng ((a.length : Int) + (b.length : Int)) ∧
  mkOk 4 ((a.length : Int) + (b.length : Int)) ((a.length : Int) + (b.length : Int)) ∧
  loopW (σ := Int × (List Int)) (0, (rep' ((a.length : Int) + (b.length : Int)) 0)) fun ⟨x, out⟩ next1 =>
    condW (decide (x < (a.length : Int)))
      (((0 : Int) ≤ x ∧ x < (a.length : Int)) ∧
      loopW (σ := Int × Int × (List Int)) (0, 0, out) fun ⟨carry, x1, out1⟩ next2 =>
        condW (decide (x1 < (b.length : Int)))
          (((0 : Int) ≤ x1 ∧ x1 < (b.length : Int)) ∧
          rng (x + x1) ∧
          ((0 : Int) ≤ (x + x1) ∧ (x + x1) < (out1.length : Int)) ∧
          setW (IntKind.wrap .u64 (carry + (IntKind.wrap .u64 ((IntKind.wrap .u64 ((IntKind.wrap .u64 (at' a x)) * (IntKind.wrap .u64 (at' b x1)))) + (IntKind.wrap .u64 (at' out1 (x + x1))))))) fun carry1 =>
          rng (x + x1) ∧
          ((0 : Int) ≤ (x + x1) ∧ (x + x1) < (out1.length : Int)) ∧
          rng (x1 + 1) ∧
          next2 ((carry1 / 2 ^ (Int.toNat 32)), (x1 + 1), (set' out1 (x + x1) (IntKind.wrap .u32 carry1))))
          (rng (x + (b.length : Int)) ∧
          ((0 : Int) ≤ (x + (b.length : Int)) ∧ (x + (b.length : Int)) < (out1.length : Int)) ∧
          rng (x + 1) ∧
          next1 ((x + 1), (set' out1 (x + (b.length : Int)) (IntKind.wrap .u32 carry)))))
      (natural_trim_W out fun r =>
      Q r)
def natural_Add_W (a : List Int) (b : List Int) (Q : List Int → Prop) : Prop :=
  rng ((max (a.length : Int) (b.length : Int)) + 1) ∧
  mkOk 4 ((max (a.length : Int) (b.length : Int)) + 1) ((max (a.length : Int) (b.length : Int)) + 1) ∧
  loopW (σ := Int × Int × (List Int)) (0, 0, (rep' ((max (a.length : Int) (b.length : Int)) + 1) 0)) fun ⟨carry, x, out⟩ next1 =>
    condW (decide (x < ((Int.toNat ((max (a.length : Int) (b.length : Int)) + 1)) : Int)))
      (natural_word_W a x fun r =>
      natural_word_W b x fun r1 =>
      setW (IntKind.wrap .u64 (carry + (IntKind.wrap .u64 (r + r1)))) fun carry1 =>
      ((0 : Int) ≤ x ∧ x < (out.length : Int)) ∧
      rng (x + 1) ∧
      next1 ((carry1 / 2 ^ (Int.toNat 32)), (x + 1), (set' out x (IntKind.wrap .u32 carry1))))
      (natural_trim_W out fun r2 =>
      Q r2)
def natural_Sub_W (a : List Int) (b : List Int) (Q : List Int → Option Int → Prop) : Prop :=
  natural_Cmp_W a b fun r =>
  condW (decide (r < 0))
    (Q [] (some 3))
    (mkOk 4 (a.length : Int) (a.length : Int) ∧
    loopW (σ := Int × Int × (List Int)) (0, 0, (rep' (a.length : Int) 0)) fun ⟨borrow, x, out⟩ next1 =>
      condW (decide (x < ((Int.toNat (a.length : Int)) : Int)))
        (natural_word_W a x fun r1 =>
        natural_word_W b x fun r2 =>
        setW (IntKind.wrap .u64 ((IntKind.wrap .u64 (r1 - r2)) - borrow)) fun d =>
        ((0 : Int) ≤ x ∧ x < (out.length : Int)) ∧
        rng (x + 1) ∧
        next1 ((d / 2 ^ (Int.toNat 63)), (x + 1), (set' out x (IntKind.wrap .u32 d))))
        (natural_trim_W out fun r3 =>
        Q r3 none))
end Go.Gg
/- Formulas of functions. Conditions: none. -/
namespace Go.Gg
def base_Ints_W (a : List Int) (b : List Int) (Q : Bool → Prop) : Prop :=
  condW ((a.length : Int) != (b.length : Int))
    (Q false)
    (loopW (σ := Int) 0 fun x next1 =>
      condW (decide (x < (a.length : Int)))
        (((0 : Int) ≤ x ∧ x < (a.length : Int)) ∧
        ((0 : Int) ≤ x ∧ x < (b.length : Int)) ∧
        condW ((at' a x) != (at' b x))
          (Q false)
          (rng (x + 1) ∧
          next1 (x + 1)))
        (Q true))
def base_Num_W (err : Option Int) (Q : Int → Prop) : Prop :=
  condW (Option.isNone err)
    (Q 0)
    (condW (Option.isSome err)
      (Q (Option.getD err 0))
      (Q (-1)))
def rational_form_W (neg : Bool) (num : List Int) (den : List Int) (Q : GRat → Prop) : Prop :=
  natural_Bits_W num fun r =>
  condW (r == 0)
    (Q (⟨false, [], []⟩ : GRat))
    (natural_Gcd_W num den fun g2 =>
    natural_Div_W num g2 fun r1 _ _ =>
    natural_Div_W den g2 fun r4 _ _ =>
    Q (⟨neg, r1, r4⟩ : GRat))
def rational_size_W (n : Int) (Q : List Int → Prop) : Prop :=
  condW (n == (-9223372036854775808))
    (Q [0, 2147483648])
    (rng (-n) ∧
    natural_Of_W (max n (-n)) fun r =>
    Q r)
def rational_one_W (Q : List Int → Prop) : Prop :=
  Q [1]
def rational_Of_W (n : Int) (Q : GRat → Prop) : Prop :=
  rational_size_W n fun r =>
  rational_one_W fun r1 =>
  rational_form_W (decide (n < 0)) r r1 fun r2 =>
  Q r2
def base_Is_W (err : Option Int) (code : Int) (Q : Bool → Prop) : Prop :=
  condW (Option.isSome err)
    (Q ((Option.getD err 0) == code))
    (Q false)
def base_Clip_W (n : Int) (lo : Int) (hi : Int) (Q : Int → Prop) : Prop :=
  Q (max lo (min n hi))
def rational_plain_W (a : List Int) (Q : Bool → Prop) : Prop :=
  condW (decide (0 < (a.length : Int)))
    (rng ((a.length : Int) - 1) ∧
    ((0 : Int) ≤ ((a.length : Int) - 1) ∧ ((a.length : Int) - 1) < (a.length : Int)) ∧
    Q ((at' a ((a.length : Int) - 1)) != 0))
    (Q false)
def rational_Valid_W (a : GRat) (Q : Bool → Prop) : Prop :=
  joinW (α := Bool) (fun next1 =>
    condW ((a.Num.length : Int) == 0)
      (next1 ((a.Den.length : Int) == 0))
      (next1 false))
    fun x =>
    condW x
      (Q (!a.Neg))
      (rational_plain_W a.Num fun r =>
      condW r
        (rational_plain_W a.Den fun r1 =>
        condW r1
          (natural_Gcd_W a.Num a.Den fun r2 =>
          rational_one_W fun r3 =>
          natural_Cmp_W r2 r3 fun r4 =>
          Q (r4 == 0))
          (Q false))
        (Q false))
def rational_parts_W (a : GRat) (Q : Bool → List Int → List Int → Prop) : Prop :=
  joinW (α := Bool) (fun next1 =>
    rational_Valid_W a fun r1 =>
    condW (!r1)
      (next1 true)
      (next1 ((a.Num.length : Int) == 0)))
    fun x =>
    condW x
      (rational_one_W fun r =>
      Q false [] r)
      (Q a.Neg a.Num a.Den)
def rational_Sign_W (a : GRat) (Q : Int → Prop) : Prop :=
  rational_parts_W a fun r r1 _ =>
  condW ((r1.length : Int) == 0)
    (Q 0)
    (condW r
      (Q (-1))
      (Q 1))
def rational_Div_W (a : GRat) (b : GRat) (Q : GRat → Option Int → Prop) : Prop :=
  rational_parts_W a fun r r1 r2 =>
  rational_parts_W b fun r3 r4 r5 =>
  condW ((r4.length : Int) == 0)
    (Q (⟨false, [], []⟩ : GRat) (some 8))
    (natural_Mul_W r1 r5 fun r6 =>
    natural_Mul_W r2 r4 fun r7 =>
    rational_form_W (r != r3) r6 r7 fun r8 =>
    Q r8 none)
def rational_Add_W (a : GRat) (b : GRat) (Q : GRat → Prop) : Prop :=
  rational_parts_W a fun r r1 r2 =>
  rational_parts_W b fun r3 r4 r5 =>
  natural_Mul_W r1 r5 fun p =>
  natural_Mul_W r4 r2 fun q =>
  natural_Mul_W r2 r5 fun den =>
  condW (r == r3)
    (natural_Add_W p q fun r6 =>
    rational_form_W r r6 den fun r7 =>
    Q r7)
    (natural_Cmp_W p q fun r8 =>
    condW (decide (0 ≤ r8))
      (natural_Sub_W p q fun r9 _ =>
      rational_form_W r r9 den fun r11 =>
      Q r11)
      (natural_Sub_W q p fun r12 _ =>
      rational_form_W r3 r12 den fun r14 =>
      Q r14))
def rational_Neg_W (a : GRat) (Q : GRat → Prop) : Prop :=
  rational_parts_W a fun r r1 r2 =>
  rational_form_W (!r) r1 r2 fun r3 =>
  Q r3
def rational_Sub_W (a : GRat) (b : GRat) (Q : GRat → Prop) : Prop :=
  detW (rational_Neg_W b) fun r =>
  detW (rational_Add_W a r) fun r1 =>
  Q r1
def rational_Cmp_W (a : GRat) (b : GRat) (Q : Int → Prop) : Prop :=
  rational_Sub_W a b fun r =>
  rational_Sign_W r fun r1 =>
  Q r1
end Go.Gg
/- Formulas of functions. Conditions: none. -/
namespace Go.Gg
def formula_arguments_W (kind : Int) (n : Int) (Q : Bool → Prop) : Prop :=
  condW (kind == 0)
    (Q (n == 0))
    (condW (kind == 1)
      (Q (n == 1))
      (condW (decide (1 ≤ n))
        (Q (decide (n ≤ 16)))
        (Q false)))
def formula_checkNode_W (f : GFormula) (i : Int) (Q : Option Int → Prop) : Prop :=
  ((0 : Int) ≤ i ∧ i < (f.Nodes.length : Int)) ∧
  joinW (α := Bool) (fun next5 =>
    condW (decide ((at' f.Nodes i).Kind < 0))
      (next5 true)
      (next5 (decide (5 < (at' f.Nodes i).Kind))))
    fun x =>
    condW x
      (Q (some 7))
      (formula_arguments_W ((at' f.Nodes i).Kind) (((at' f.Nodes i).Args).length : Int) fun r =>
      condW (!r)
        (Q (some 11))
        (loopW (σ := Int) 0 fun x1 next1 =>
          condW (decide (x1 < (((at' f.Nodes i).Args).length : Int)))
            (((0 : Int) ≤ x1 ∧ x1 < (((at' f.Nodes i).Args).length : Int)) ∧
            joinW (α := Bool) (fun next2 =>
              condW (decide ((at' ((at' f.Nodes i).Args) x1) < 0))
                (next2 true)
                (rng (f.Vars + i) ∧
                next2 (decide ((f.Vars + i) ≤ (at' ((at' f.Nodes i).Args) x1)))))
              fun x2 =>
              condW x2
                (Q (some 10))
                (rng (x1 + 1) ∧
                next1 (x1 + 1)))
            (condW ((at' f.Nodes i).Kind == 0)
              (joinW (α := Bool) (fun next3 =>
                condW ((at' f.Nodes i).K != 0)
                  (next3 ((at' f.Nodes i).K != 1))
                  (next3 false))
                fun x3 =>
                condW x3
                  (Q (some 3))
                  (Q none))
              (condW ((at' f.Nodes i).Kind == 4)
                (joinW (α := Bool) (fun next4 =>
                  condW (decide ((at' f.Nodes i).K < 1))
                    (next4 true)
                    (next4 (decide ((((at' f.Nodes i).Args).length : Int) < (at' f.Nodes i).K))))
                  fun x4 =>
                  condW x4
                    (Q (some 3))
                    (Q none))
                (condW ((at' f.Nodes i).K != 0)
                  (Q (some 2))
                  (Q none))))))
def formula_Valid_W (f : GFormula) (arg : Int) (Q : Bool → Prop) : Prop :=
  condW (decide (0 ≤ f.Vars))
    (condW (decide (0 ≤ arg))
      (condW (decide (arg < f.Vars))
        (Q true)
        (rng (arg - f.Vars) ∧
        Q (decide ((arg - f.Vars) < (f.Nodes.length : Int)))))
      (Q false))
    (Q false)
def formula_Check_W (f : GFormula) (Q : Option Int → Prop) : Prop :=
  joinW (α := Bool) (fun next2 =>
    condW (decide (f.Vars < 0))
      (next2 true)
      (next2 (decide (24 < f.Vars))))
    fun x =>
    condW x
      (Q (some 3))
      (condW (decide (128 < (f.Nodes.length : Int)))
        (Q (some 4))
        (loopW (σ := Int) 0 fun x1 next1 =>
          condW (decide (x1 < (f.Nodes.length : Int)))
            (formula_checkNode_W f x1 fun e =>
            condW (Option.isSome e)
              (Q e)
              (rng (x1 + 1) ∧
              next1 (x1 + 1)))
            (formula_Valid_W f f.Top fun r =>
            condW (!r)
              (Q (some 10))
              (Q none))))
end Go.Gg
/- Formulas of functions. Conditions: none. -/
namespace Go.Gg
def order_Check_W (o : List Int) (vars : Int) (Q : Option Int → Prop) : Prop :=
  joinW (α := Bool) (fun next3 =>
    condW (decide (vars < 0))
      (next3 true)
      (next3 (decide (24 < vars))))
    fun x =>
    condW x
      (Q (some 3))
      (condW ((o.length : Int) != vars)
        (Q (some 11))
        (mkOk 1 vars vars ∧
        loopW (σ := Int × (List Bool)) (0, (rep' vars false)) fun ⟨x1, seen⟩ next1 =>
          condW (decide (x1 < (o.length : Int)))
            (((0 : Int) ≤ x1 ∧ x1 < (o.length : Int)) ∧
            joinW (α := Bool) (fun next2 =>
              condW (decide ((at' o x1) < 0))
                (next2 true)
                (next2 (decide (vars ≤ (at' o x1)))))
              fun x2 =>
              condW x2
                (Q (some 3))
                (((0 : Int) ≤ (at' o x1) ∧ (at' o x1) < (seen.length : Int)) ∧
                condW (at' seen (at' o x1))
                  (Q (some 6))
                  (((0 : Int) ≤ (at' o x1) ∧ (at' o x1) < (seen.length : Int)) ∧
                  rng (x1 + 1) ∧
                  next1 ((x1 + 1), (set' seen (at' o x1) true)))))
            (Q none)))
def order_places_W (o : List Int) (Q : List Int → Prop) : Prop :=
  mkOk 8 (o.length : Int) (o.length : Int) ∧
  loopW (σ := Int × (List Int)) (0, (rep' (o.length : Int) 0)) fun ⟨x, out⟩ next1 =>
    condW (decide (x < (o.length : Int)))
      (((0 : Int) ≤ x ∧ x < (o.length : Int)) ∧
      ((0 : Int) ≤ (at' o x) ∧ (at' o x) < (out.length : Int)) ∧
      rng (x + 1) ∧
      next1 ((x + 1), (set' out (at' o x) x)))
      (Q out)
def order_Positions_W (o : List Int) (Q : List Int → Option Int → Prop) : Prop :=
  order_Check_W o (o.length : Int) fun err =>
  condW (Option.isSome err)
    (Q [] err)
    (order_places_W o fun r =>
    Q r none)
def order_natural_W (n : Int) (Q : List Int → Prop) : Prop :=
  mkOk 8 n n ∧
  loopW (σ := Int × (List Int)) (0, (rep' n 0)) fun ⟨x, out⟩ next1 =>
    condW (decide (x < ((Int.toNat n) : Int)))
      (((0 : Int) ≤ x ∧ x < (out.length : Int)) ∧
      rng (x + 1) ∧
      next1 ((x + 1), (set' out x x)))
      (Q out)
def order_Natural_W (vars : Int) (Q : List Int → Option Int → Prop) : Prop :=
  joinW (α := Bool) (fun next1 =>
    condW (decide (vars < 0))
      (next1 true)
      (next1 (decide (24 < vars))))
    fun x =>
    condW x
      (Q [] (some 3))
      (order_natural_W vars fun r =>
      Q r none)
def order_Distance_W (a : List Int) (b : List Int) (Q : Int → Option Int → Prop) : Prop :=
  loopW (σ := Int) 0 fun x next1 =>
    condW (decide (x < ([a, b].length : Int)))
      (((0 : Int) ≤ x ∧ x < ([a, b].length : Int)) ∧
      order_Check_W (at' [a, b] x) ((at' [a, b] x).length : Int) fun err =>
      condW (Option.isSome err)
        (Q 0 err)
        (rng (x + 1) ∧
        next1 (x + 1)))
      (condW ((a.length : Int) != (b.length : Int))
        (Q 0 (some 11))
        (order_places_W b fun at1 =>
        loopW (σ := Int × Int) (0, 0) fun ⟨n, x1⟩ next2 =>
          condW (decide (x1 < (a.length : Int)))
            (((0 : Int) ≤ x1 ∧ x1 < (a.length : Int)) ∧
            ((0 : Int) ≤ 0 ∧ 0 ≤ x1 ∧ x1 ≤ (a.length : Int)) ∧
            loopW (σ := Int × Int) (n, 0) fun ⟨n1, x2⟩ next3 =>
              condW (decide (x2 < ((sub' a 0 x1).length : Int)))
                (((0 : Int) ≤ x2 ∧ x2 < ((sub' a 0 x1).length : Int)) ∧
                ((0 : Int) ≤ (at' (sub' a 0 x1) x2) ∧ (at' (sub' a 0 x1) x2) < (at1.length : Int)) ∧
                ((0 : Int) ≤ (at' a x1) ∧ (at' a x1) < (at1.length : Int)) ∧
                condW (decide ((at' at1 (at' a x1)) < (at' at1 (at' (sub' a 0 x1) x2))))
                  (rng (n1 + 1) ∧
                  rng (x2 + 1) ∧
                  next3 ((n1 + 1), (x2 + 1)))
                  (rng (x2 + 1) ∧
                  next3 (n1, (x2 + 1))))
                (rng (x1 + 1) ∧
                next2 (n1, (x1 + 1))))
            (Q n none)))
def order_walk__visit__e2_W : Nat → Int → Int → (List GNode) → Int → (List Int) → (List Bool) → (List Int → List Bool → Prop) → Prop
  | 0, _, _, _, _, _, _, _ => False
  | fu + 1, arg, Formula, w, w1, events, seen, Q =>
    ((0 : Int) ≤ arg ∧ arg < (seen.length : Int)) ∧
    condW (at' seen arg)
      (Q events seen)
      (((0 : Int) ≤ arg ∧ arg < (seen.length : Int)) ∧
      condW (decide (arg < Formula))
        (((events ++ [arg]).length * 8 ≤ 140737488355328) ∧
        Q (events ++ [arg]) (set' seen arg true))
        (rng (arg - Formula) ∧
        ((0 : Int) ≤ (arg - Formula) ∧ (arg - Formula) < (w.length : Int)) ∧
        loopW (σ := Int × (List Int) × (List Bool)) (0, events, (set' seen arg true)) fun ⟨x, x1, x2⟩ next1 =>
          condW (decide (x < (((at' w (arg - Formula)).Args).length : Int)))
            (((0 : Int) ≤ x ∧ x < (((at' w (arg - Formula)).Args).length : Int)) ∧
            order_walk__visit__e2_W fu (at' ((at' w (arg - Formula)).Args) x) Formula w w1 x1 x2 fun u u1 =>
            u1.length = x2.length ∧
            rng (x + 1) ∧
            next1 ((x + 1), u, u1))
            (Q x1 x2)))
def order_depth_W (f : GFormula) (Q : List Int → List Bool → Prop) : Prop :=
  rng (f.Vars + (f.Nodes.length : Int)) ∧
  mkOk 1 (f.Vars + (f.Nodes.length : Int)) (f.Vars + (f.Nodes.length : Int)) ∧
  ∃ fu, order_walk__visit__e2_W fu f.Top f.Vars f.Nodes f.Top ([] : List Int) (rep' (f.Vars + (f.Nodes.length : Int)) false) fun u u1 =>
  u1.length = (rep' (f.Vars + (f.Nodes.length : Int)) false).length ∧
  loopW (σ := Int × (List Int)) (0, u) fun ⟨x, x1⟩ next1 =>
    condW (decide (x < f.Vars))
      (((0 : Int) ≤ x ∧ x < (u1.length : Int)) ∧
      condW (!(at' u1 x))
        (((x1 ++ [x]).length * 8 ≤ 140737488355328) ∧
        rng (x + 1) ∧
        next1 ((x + 1), (x1 ++ [x])))
        (rng (x + 1) ∧
        next1 ((x + 1), x1)))
      (Q x1 u1)
def order_Depth_W (f : GFormula) (Q : List Int → Option Int → Prop) : Prop :=
  formula_Check_W f fun err =>
  condW (Option.isSome err)
    (Q [] err)
    (order_depth_W f fun r _ =>
    Q r none)
def order_Weighted_1__e_W (a : Int) (b : Int) (u : List GRat) (Q : Int → Prop) : Prop :=
  ((0 : Int) ≤ b ∧ b < (u.length : Int)) ∧
  ((0 : Int) ≤ a ∧ a < (u.length : Int)) ∧
  detW (rational_Cmp_W (at' u b) (at' u a)) fun r =>
  Q r
def slices_insertionSortCmpFunc_int__e2_W (a : Int) (b : Int) (data : List Int) (u : List GRat) (Q : List Int → Prop) : Prop :=
  rng (a + 1) ∧
  loopW (σ := Int × (List Int)) ((a + 1), data) fun ⟨i, data1⟩ next1 =>
    condW (decide (i < b))
      (loopW (σ := Int × (List Int)) (i, data1) fun ⟨j, data2⟩ next2 =>
        condW (decide (a < j))
          (((0 : Int) ≤ j ∧ j < (data2.length : Int)) ∧
          rng (j - 1) ∧
          ((0 : Int) ≤ (j - 1) ∧ (j - 1) < (data2.length : Int)) ∧
          ∃ r, (order_Weighted_1__e_W (at' data2 j) (at' data2 (j - 1)) u fun y1 => y1 = r) ∧
          condW (decide (r < 0))
            (rng (j - 1) ∧
            rng (j - 1) ∧
            ((0 : Int) ≤ (j - 1) ∧ (j - 1) < (data2.length : Int)) ∧
            ((0 : Int) ≤ j ∧ j < (data2.length : Int)) ∧
            ((0 : Int) ≤ j ∧ j < (data2.length : Int)) ∧
            ((0 : Int) ≤ (j - 1) ∧ (j - 1) < (data2.length : Int)) ∧
            rng (j - 1) ∧
            next2 ((j - 1), (set' (set' data2 j (at' data2 (j - 1))) (j - 1) (at' data2 j))))
            (rng (i + 1) ∧
            next1 ((i + 1), data2)))
          (rng (i + 1) ∧
          next1 ((i + 1), data2)))
      (Q data1)
def slices_stableCmpFunc_int__e2_W (n : Int) (data : List Int) (u : List GRat) (Q : List Int → Prop) : Prop :=
  loopW (σ := Int × Int × (List Int)) (0, 20, data) fun ⟨a, b, data1⟩ next1 =>
    condW (decide (b ≤ n))
      (slices_insertionSortCmpFunc_int__e2_W a b data1 u fun data2 =>
      data2.length = data1.length ∧
      rng (b + 20) ∧
      next1 (b, (b + 20), data2))
      (slices_insertionSortCmpFunc_int__e2_W a n data1 u fun data3 =>
      data3.length = data1.length ∧
      loopW (σ := Int) 20 fun blockSize next2 =>
        condW (decide (blockSize < n))
          (rng (2 * blockSize) ∧
          loopW (σ := Unit) () fun _ _ =>
            condW (decide ((2 * blockSize) ≤ n))
              (rng (0 + blockSize) ∧
              False)
              (rng (0 + blockSize) ∧
              condW (decide ((0 + blockSize) < n))
                (False)
                (rng (blockSize * 2) ∧
                next2 (blockSize * 2))))
          (Q data3))
def slices_SortStableFunc___int_int__e2_W (x : List Int) (u : List GRat) (Q : List Int → Prop) : Prop :=
  slices_stableCmpFunc_int__e2_W (x.length : Int) x u fun x1 =>
  x1.length = x.length ∧
  Q x1
def order_Weighted_W (f : GFormula) (Q : List Int → Option Int → Prop) : Prop :=
  formula_Check_W f fun err =>
  condW (Option.isSome err)
    (Q [] err)
    (rng (f.Vars + (f.Nodes.length : Int)) ∧
    mkOk 56 (f.Vars + (f.Nodes.length : Int)) (f.Vars + (f.Nodes.length : Int)) ∧
    detW (rational_Of_W 1) fun r =>
    ((0 : Int) ≤ f.Top ∧ f.Top < ((Int.toNat (f.Vars + (f.Nodes.length : Int))) : Int)) ∧
    backW (σ := (List GRat)) f.Nodes (set' (rep' (f.Vars + (f.Nodes.length : Int)) (⟨false, [], []⟩ : GRat)) f.Top r) (fun i x1 x next1 =>
        rng (f.Vars + i) ∧
        ((0 : Int) ≤ (f.Vars + i) ∧ (f.Vars + i) < (x.length : Int)) ∧
        rational_Sign_W (at' x (f.Vars + i)) fun r1 =>
        condW (r1 == 0)
          (next1 x)
          (condW ((x1.Args.length : Int) == 0)
            (next1 x)
            (detW (rational_Of_W (x1.Args.length : Int)) fun r2 =>
            detW2 (rational_Div_W (at' x (f.Vars + i)) r2) fun r3 r4 =>
            condW (Option.isSome r4)
              (False)
              (loopW (σ := Int × (List GRat)) (0, x) fun ⟨x2, x3⟩ next2 =>
                condW (decide (x2 < (x1.Args.length : Int)))
                  (((0 : Int) ≤ x2 ∧ x2 < (x1.Args.length : Int)) ∧
                  ((0 : Int) ≤ (at' x1.Args x2) ∧ (at' x1.Args x2) < (x3.length : Int)) ∧
                  detW (rational_Add_W (at' x3 (at' x1.Args x2)) r3) fun r5 =>
                  ((0 : Int) ≤ (at' x1.Args x2) ∧ (at' x1.Args x2) < (x3.length : Int)) ∧
                  rng (x2 + 1) ∧
                  next2 ((x2 + 1), (set' x3 (at' x1.Args x2) r5)))
                  (next1 x3)))))
      fun x4 =>
      order_natural_W f.Vars fun out =>
      slices_SortStableFunc___int_int__e2_W out x4 fun out1 =>
      out1.length = out.length ∧
      Q out1 none)
def order_Exchange_W (o : List Int) (level : Int) (Q : List Int → Option Int → Prop) : Prop :=
  order_Check_W o (o.length : Int) fun err =>
  condW (Option.isSome err)
    (Q [] err)
    (joinW (α := Bool) (fun next1 =>
      condW (decide (level < 0))
        (next1 true)
        (rng ((o.length : Int) - 2) ∧
        next1 (decide (((o.length : Int) - 2) < level))))
      fun x =>
      condW x
        (Q [] (some 10))
        (mkOk 8 (o.length : Int) (o.length : Int) ∧
        rng (level + 1) ∧
        rng (level + 1) ∧
        ((0 : Int) ≤ (level + 1) ∧ (level + 1) < ((Int.toNat (o.length : Int)) : Int)) ∧
        ((0 : Int) ≤ level ∧ level < ((Int.toNat (o.length : Int)) : Int)) ∧
        ((0 : Int) ≤ level ∧ level < ((Int.toNat (o.length : Int)) : Int)) ∧
        ((0 : Int) ≤ (level + 1) ∧ (level + 1) < ((Int.toNat (o.length : Int)) : Int)) ∧
        Q (set' (set' o level (at' o (level + 1))) (level + 1) (at' o level)) none))
end Go.Gg
/- Formulas of functions. Conditions: none. -/
namespace Go.Gg
def ref14_Check_W (o : List Int) (vars : Int) (Q : Int → Prop) : Prop :=
  condW (decide (vars < 0))
    (Q 3)
    (condW (decide (24 < vars))
      (Q 3)
      (condW ((o.length : Int) != vars)
        (Q 11)
        (loopW (σ := Int) 0 fun i next1 =>
          condW (decide (i < vars))
            (((0 : Int) ≤ i ∧ i < (o.length : Int)) ∧
            condW (decide ((at' o i) < 0))
              (Q 3)
              (((0 : Int) ≤ i ∧ i < (o.length : Int)) ∧
              condW (decide (vars ≤ (at' o i)))
                (Q 3)
                (loopW (σ := Int) 0 fun k1 next2 =>
                  condW (decide (k1 < i))
                    (((0 : Int) ≤ k1 ∧ k1 < (o.length : Int)) ∧
                    ((0 : Int) ≤ i ∧ i < (o.length : Int)) ∧
                    condW ((at' o k1) == (at' o i))
                      (Q 6)
                      (rng (k1 + 1) ∧
                      next2 (k1 + 1)))
                    (rng (i + 1) ∧
                    next1 (i + 1)))))
            (Q 0))))
def ref14_Place_W (l : List Int) (n : Int) (Q : Int → Prop) : Prop :=
  loopW (σ := Int) 0 fun i next1 =>
    condW (decide (i < (l.length : Int)))
      (((0 : Int) ≤ i ∧ i < (l.length : Int)) ∧
      condW ((at' l i) == n)
        (Q i)
        (rng (i + 1) ∧
        next1 (i + 1)))
      (Q (-1))
def ref14_Natural_W (vars : Int) (Q : List Int → Prop) : Prop :=
  loopW (σ := Int × (List Int)) (0, []) fun ⟨i, out⟩ next1 =>
    condW (decide (i < vars))
      (((out ++ [i]).length * 8 ≤ 140737488355328) ∧
      rng (i + 1) ∧
      next1 ((i + 1), (out ++ [i])))
      (Q out)
def ref14_Positions_W (o : List Int) (Q : List Int → Prop) : Prop :=
  loopW (σ := Int × (List Int)) (0, []) fun ⟨i, out⟩ next1 =>
    condW (decide (i < (o.length : Int)))
      (ref14_Place_W o i fun r =>
      ((out ++ [r]).length * 8 ≤ 140737488355328) ∧
      rng (i + 1) ∧
      next1 ((i + 1), (out ++ [r])))
      (Q out)
def ref14_Distance_W (a : List Int) (b : List Int) (Q : Int → Prop) : Prop :=
  loopW (σ := Int × Int) (0, 0) fun ⟨n, i⟩ next1 =>
    condW (decide (i < (a.length : Int)))
      (loopW (σ := Int × Int) (n, 0) fun ⟨n1, k1⟩ next2 =>
        condW (decide (k1 < i))
          (((0 : Int) ≤ k1 ∧ k1 < (a.length : Int)) ∧
          detW (ref14_Place_W b (at' a k1)) fun r =>
          ((0 : Int) ≤ i ∧ i < (a.length : Int)) ∧
          detW (ref14_Place_W b (at' a i)) fun r1 =>
          condW (decide (r1 < r))
            (rng (n1 + 1) ∧
            rng (k1 + 1) ∧
            next2 ((n1 + 1), (k1 + 1)))
            (rng (k1 + 1) ∧
            next2 (n1, (k1 + 1))))
          (rng (i + 1) ∧
          next1 (n1, (i + 1))))
      (Q n)
def ref14_Exchange_W (o : List Int) (level : Int) (Q : List Int → Prop) : Prop :=
  (o.length * 8 ≤ 140737488355328) ∧
  rng (level + 1) ∧
  rng (level + 1) ∧
  ((0 : Int) ≤ (level + 1) ∧ (level + 1) < (o.length : Int)) ∧
  ((0 : Int) ≤ level ∧ level < (o.length : Int)) ∧
  ((0 : Int) ≤ level ∧ level < (o.length : Int)) ∧
  ((0 : Int) ≤ (level + 1) ∧ (level + 1) < (o.length : Int)) ∧
  Q (set' (set' o level (at' o (level + 1))) (level + 1) (at' o level))
end Go.Gg
/- Formulas of functions. Conditions: none. -/
namespace Go.Gg
end Go.Gg
/- Formulas of functions. Conditions: none. -/
namespace Go.Gg
end Go.Gg
/- Formulas of functions. Conditions: none. -/
namespace Go.Gg
end Go.Gg
/- Formulas of functions. Conditions: none. -/
namespace Go.Gg
end Go.Gg
/- Formulas of functions. Conditions: none. -/
namespace Go.Gg
end Go.Gg
/- Formulas of functions. Conditions: none. -/
namespace Go.Gg
def law14_example_W (Q : GFormula → Prop) : Prop :=
  Q (⟨3, [(⟨3, 0, [0, 2, 1]⟩ : GNode), (⟨2, 0, [2, 3]⟩ : GNode)], 4⟩ : GFormula)
def law14_awake_W (Q : Bool → Prop) : Prop :=
  law14_example_W fun r =>
  order_Depth_W r fun r1 r2 =>
  law14_example_W fun r3 =>
  order_Weighted_W r3 fun r4 r5 =>
  order_Distance_W [0, 1, 2] [2, 1, 0] fun r6 r7 =>
  condW (Option.isNone r2)
    (condW (Option.isNone r5)
      (condW (Option.isNone r7)
        (condW (r6 == 3)
          (base_Ints_W r1 [2, 0, 1] fun r8 =>
          condW r8
            (base_Ints_W r4 [2, 0, 1] fun r9 =>
            Q r9)
            (Q false))
          (Q false))
        (Q false))
      (Q false))
    (Q false)
def law14_valid_W (o : List Int) (Q : Bool → Prop) : Prop :=
  condW (decide ((o.length : Int) ≤ 24))
    (ref14_Check_W o (o.length : Int) fun r =>
    Q (r == 0))
    (Q false)
end Go.Gg
/- Formulas of functions. Conditions: none. -/
namespace Go.Gg
def law14_OrderChecks_W (o : List Int) (vars : Int) (Q : Bool → Prop) : Prop :=
  joinW (α := Bool) (fun next2 =>
    law14_awake_W fun r9 =>
    condW (!r9)
      (next2 true)
      (next2 (decide (1000 < (o.length : Int)))))
    fun x =>
    condW x
      (law14_awake_W fun r =>
      Q r)
      (order_Natural_W vars fun r1 r2 =>
      order_Check_W o vars fun r3 =>
      base_Num_W r3 fun r4 =>
      ref14_Check_W o vars fun r5 =>
      condW (r4 != r5)
        (Q false)
        (joinW (α := Bool) (fun next1 =>
          condW (decide (vars < 0))
            (next1 true)
            (next1 (decide (24 < vars))))
          fun x1 =>
          condW x1
            (condW ((r1.length : Int) == 0)
              (base_Is_W r2 3 fun r6 =>
              Q r6)
              (Q false))
            (condW (Option.isNone r2)
              (ref14_Natural_W vars fun r7 =>
              base_Ints_W r1 r7 fun r8 =>
              Q r8)
              (Q false))))
end Go.Gg
/- Formulas of functions. Conditions: none. -/
namespace Go.Gg
def law14_OrderInverts_W (o : List Int) (Q : Bool → Prop) : Prop :=
  joinW (α := Bool) (fun next2 =>
    law14_awake_W fun r6 =>
    condW (!r6)
      (next2 true)
      (law14_valid_W o fun r7 =>
      next2 (!r7)))
    fun x =>
    condW x
      (law14_awake_W fun r =>
      Q r)
      (order_Positions_W o fun r1 r2 =>
      condW (Option.isSome r2)
        (Q false)
        (condW ((r1.length : Int) != (o.length : Int))
          (Q false)
          (order_Positions_W r1 fun r3 r4 =>
          loopW (σ := Int) 0 fun i next1 =>
            condW (decide (i < (o.length : Int)))
              (((0 : Int) ≤ i ∧ i < (o.length : Int)) ∧
              ((0 : Int) ≤ (at' o i) ∧ (at' o i) < (r1.length : Int)) ∧
              condW ((at' r1 (at' o i)) != i)
                (Q false)
                (rng (i + 1) ∧
                next1 (i + 1)))
              (condW (Option.isNone r4)
                (base_Ints_W r3 o fun r5 =>
                Q r5)
                (Q false)))))
end Go.Gg
/- Formulas of functions. Conditions: none. -/
namespace Go.Gg
def law14_OrderMetric_W (a : List Int) (b : List Int) (c : List Int) (Q : Bool → Prop) : Prop :=
  joinW (α := Bool) (fun next1 =>
    law14_awake_W fun r10 =>
    condW (!r10)
      (next1 true)
      (law14_valid_W a fun r11 =>
      condW (!r11)
        (next1 true)
        (law14_valid_W b fun r12 =>
        condW (!r12)
          (next1 true)
          (law14_valid_W c fun r13 =>
          condW (!r13)
            (next1 true)
            (condW ((a.length : Int) != (b.length : Int))
              (next1 true)
              (next1 ((b.length : Int) != (c.length : Int))))))))
    fun x =>
    condW x
      (law14_awake_W fun r =>
      Q r)
      (order_Distance_W a b fun r1 r2 =>
      order_Distance_W b c fun r3 r4 =>
      order_Distance_W a c fun r5 r6 =>
      order_Distance_W b a fun r7 r8 =>
      condW (Option.isSome r2)
        (Q false)
        (condW (Option.isSome r4)
          (Q false)
          (condW (Option.isSome r6)
            (Q false)
            (condW (Option.isSome r8)
              (Q false)
              (condW (r1 == r7)
                (condW (decide (0 ≤ r1))
                  (rng ((a.length : Int) - 1) ∧
                  rng ((a.length : Int) * ((a.length : Int) - 1)) ∧
                  rng (Int.tdiv ((a.length : Int) * ((a.length : Int) - 1)) 2) ∧
                  condW (decide (r1 ≤ (Int.tdiv ((a.length : Int) * ((a.length : Int) - 1)) 2)))
                    (rng (r1 + r3) ∧
                    condW (decide (r5 ≤ (r1 + r3)))
                      (base_Ints_W a b fun r9 =>
                      Q ((r1 == 0) == r9))
                      (Q false))
                    (Q false))
                  (Q false))
                (Q false))))))
end Go.Gg
/- Formulas of functions. Conditions: none. -/
namespace Go.Gg
def law14_OrderExchanges_W (a : List Int) (b : List Int) (level : Int) (Q : Bool → Prop) : Prop :=
  joinW (α := Bool) (fun next1 =>
    law14_awake_W fun r13 =>
    condW (!r13)
      (next1 true)
      (law14_valid_W a fun r14 =>
      condW (!r14)
        (next1 true)
        (law14_valid_W b fun r15 =>
        condW (!r15)
          (next1 true)
          (condW ((a.length : Int) != (b.length : Int))
            (next1 true)
            (next1 (decide ((a.length : Int) < 2)))))))
    fun x =>
    condW x
      (law14_awake_W fun r =>
      Q r)
      (rng ((a.length : Int) - 2) ∧
      base_Clip_W level 0 ((a.length : Int) - 2) fun level1 =>
      order_Exchange_W a level1 fun r1 r2 =>
      condW (Option.isSome r2)
        (Q false)
        (law14_valid_W r1 fun r3 =>
        condW (!r3)
          (Q false)
          (condW ((r1.length : Int) != (a.length : Int))
            (Q false)
            (order_Exchange_W r1 level1 fun r4 r5 =>
            order_Distance_W a b fun r6 r7 =>
            order_Distance_W r1 b fun r8 r9 =>
            order_Distance_W a r1 fun r10 r11 =>
            condW (Option.isNone r5)
              (condW (Option.isNone r7)
                (condW (Option.isNone r9)
                  (condW (Option.isNone r11)
                    (base_Ints_W r4 a fun r12 =>
                    condW r12
                      (rng (r6 - r8) ∧
                      condW ((r6 - r8) == 1)
                        (Q (r10 == 1))
                        (rng (r8 - r6) ∧
                        condW ((r8 - r6) == 1)
                          (Q (r10 == 1))
                          (Q false)))
                      (Q false))
                    (Q false))
                  (Q false))
                (Q false))
              (Q false)))))
end Go.Gg
/- Formulas of functions. Conditions: none. -/
namespace Go.Gg
def law14_OrderPairs_W (a : List Int) (b : List Int) (level : Int) (Q : Bool → Prop) : Prop :=
  joinW (α := Bool) (fun next5 =>
    law14_awake_W fun r22 =>
    condW (!r22)
      (next5 true)
      (condW (decide (1000 < (a.length : Int)))
        (next5 true)
        (next5 (decide (1000 < (b.length : Int))))))
    fun x =>
    condW x
      (law14_awake_W fun r =>
      Q r)
      (order_Positions_W a fun r1 r2 =>
      order_Distance_W a b fun r3 r4 =>
      order_Exchange_W a level fun r5 r6 =>
      ref14_Check_W a (a.length : Int) fun one =>
      joinW (α := Int) (fun next4 =>
        condW (one == 0)
          (ref14_Check_W b (b.length : Int) fun two2 =>
          next4 two2)
          (next4 one))
        fun two =>
        joinW (α := Int) (fun next3 =>
          condW (two == 0)
            (condW ((a.length : Int) != (b.length : Int))
              (next3 11)
              (next3 two))
            (next3 two))
          fun two1 =>
          joinW (α := Int) (fun next2 =>
            condW (one == 0)
              (condW (decide (level < 0))
                (next2 10)
                (rng ((a.length : Int) - 2) ∧
                condW (decide (((a.length : Int) - 2) < level))
                  (next2 10)
                  (next2 one)))
              (next2 one))
            fun three =>
            joinW (α := Unit) (fun next1 =>
              base_Num_W r2 fun r19 =>
              condW (r19 != one)
                (Q false)
                (base_Num_W r4 fun r20 =>
                condW (r20 != two1)
                  (Q false)
                  (base_Num_W r6 fun r21 =>
                  condW (r21 != three)
                    (Q false)
                    (condW (one != 0)
                      (condW (decide (0 < (r1.length : Int)))
                        (Q false)
                        (condW (two1 != 0)
                          (condW (r3 != 0)
                            (Q false)
                            (condW (three != 0)
                              (condW (decide (0 < (r5.length : Int)))
                                (Q false)
                                (next1 ()))
                              (next1 ())))
                          (condW (three != 0)
                            (condW (decide (0 < (r5.length : Int)))
                              (Q false)
                              (next1 ()))
                            (next1 ()))))
                      (condW (two1 != 0)
                        (condW (r3 != 0)
                          (Q false)
                          (condW (three != 0)
                            (condW (decide (0 < (r5.length : Int)))
                              (Q false)
                              (next1 ()))
                            (next1 ())))
                        (condW (three != 0)
                          (condW (decide (0 < (r5.length : Int)))
                            (Q false)
                            (next1 ()))
                          (next1 ())))))))
              fun _ =>
              condW (one != 0)
                (condW (two1 != 0)
                  (condW (three != 0)
                    (Q true)
                    (ref14_Exchange_W a level fun r17 =>
                    base_Ints_W r5 r17 fun r18 =>
                    Q r18))
                  (ref14_Distance_W a b fun r14 =>
                  condW (r3 == r14)
                    (condW (three != 0)
                      (Q true)
                      (ref14_Exchange_W a level fun r15 =>
                      base_Ints_W r5 r15 fun r16 =>
                      Q r16))
                    (Q false)))
                (ref14_Positions_W a fun r7 =>
                base_Ints_W r1 r7 fun r8 =>
                condW r8
                  (condW (two1 != 0)
                    (condW (three != 0)
                      (Q true)
                      (ref14_Exchange_W a level fun r12 =>
                      base_Ints_W r5 r12 fun r13 =>
                      Q r13))
                    (ref14_Distance_W a b fun r9 =>
                    condW (r3 == r9)
                      (condW (three != 0)
                        (Q true)
                        (ref14_Exchange_W a level fun r10 =>
                        base_Ints_W r5 r10 fun r11 =>
                        Q r11))
                      (Q false)))
                  (Q false)))
end Go.Gg
