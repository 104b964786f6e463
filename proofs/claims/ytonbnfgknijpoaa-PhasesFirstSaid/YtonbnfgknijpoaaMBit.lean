/- Bits of small numbers. Conditions: the numbers are below 2^62. -/
import Derived.Test.YtonbnfgknijpoaaMf
namespace Go.Gg

theorem big62 : (2 : Nat) ^ 62 = 4611686018427387904 := rfl
theorem ofInt_toNat {a : Nat} (h : a < 2 ^ 62) : (BitVec.ofInt 64 (a : Int)).toNat = a := by
  rw [BitVec.toNat_ofInt]
  rw [big62] at h
  omega
theorem wrap62 {a : Nat} (h : a < 2 ^ 62) : IntKind.i64.wrap (a : Int) = (a : Int) := by
  rw [big62] at h
  exact rng_wrap (by unfold rng; omega)
theorem bits_or {a b : Nat} (ha : a < 2 ^ 62) (hb : b < 2 ^ 62) : bits .or .i64 (a : Int) (b : Int) = ((a ||| b : Nat) : Int) := by
  show IntKind.i64.wrap (((BitVec.ofInt 64 (a : Int)) ||| (BitVec.ofInt 64 (b : Int))).toNat : Int) = _
  rw [BitVec.toNat_or, ofInt_toNat ha, ofInt_toNat hb]
  exact wrap62 (Nat.or_lt_two_pow ha hb)
theorem bits_and {a b : Nat} (ha : a < 2 ^ 62) (hb : b < 2 ^ 62) : bits .and .i64 (a : Int) (b : Int) = ((a &&& b : Nat) : Int) := by
  show IntKind.i64.wrap (((BitVec.ofInt 64 (a : Int)) &&& (BitVec.ofInt 64 (b : Int))).toNat : Int) = _
  rw [BitVec.toNat_and, ofInt_toNat ha, ofInt_toNat hb]
  exact wrap62 (Nat.and_lt_two_pow _ hb)
theorem bits_xor {a b : Nat} (ha : a < 2 ^ 62) (hb : b < 2 ^ 62) : bits .xor .i64 (a : Int) (b : Int) = ((a ^^^ b : Nat) : Int) := by
  show IntKind.i64.wrap (((BitVec.ofInt 64 (a : Int)) ^^^ (BitVec.ofInt 64 (b : Int))).toNat : Int) = _
  rw [BitVec.toNat_xor, ofInt_toNat ha, ofInt_toNat hb]
  exact wrap62 (Nat.xor_lt_two_pow ha hb)
theorem inS_bit {s i : Nat} : inS s i = s.testBit i := by rw [inS, Nat.testBit_eq_decide_div_mod_eq]
/-- A set of numbers below n. -/
def bset (p : Nat → Bool) : Nat → Nat
  | 0 => 0
  | n + 1 => if p n = true then bset p n + 2 ^ n else bset p n
theorem bset_lt {p : Nat → Bool} : ∀ n, bset p n < 2 ^ n
  | 0 => by simp [bset]
  | n + 1 => by
    have := bset_lt (p := p) n
    rw [bset, Nat.pow_succ]
    split <;> omega
theorem bset_or {p : Nat → Bool} (n : Nat) : bset p n ||| 2 ^ n = bset p n + 2 ^ n := by
  have := Nat.two_pow_add_eq_or_of_lt (bset_lt (p := p) n) 1
  rw [Nat.mul_one] at this
  rw [Nat.or_comm, ← this, Nat.add_comm]
theorem bset_bit {p : Nat → Bool} : ∀ n i, (bset p n).testBit i = (decide (i < n) && p i)
  | 0, i => by simp [bset]
  | n + 1, i => by
    rw [bset]
    rcases Nat.lt_trichotomy i n with h | h | h
    · have h1 : (decide (i < n + 1) && p i) = (decide (i < n) && p i) := by rw [decide_eq_true h, decide_eq_true (by omega)]
      rw [h1, ← bset_bit n i]
      split
      · rw [← bset_or, Nat.testBit_or, Nat.testBit_two_pow_of_ne (by omega), Bool.or_false]
      · rfl
    · subst h
      rw [decide_eq_true (Nat.lt_succ_self i), Bool.true_and]
      have h0 : (bset p i).testBit i = false := Nat.testBit_lt_two_pow (bset_lt i)
      cases hp : p i with
      | true => rw [if_pos rfl, ← bset_or, Nat.testBit_or, h0, Nat.testBit_two_pow_self, Bool.false_or]
      | false => rw [if_neg (by simp)]; exact h0
    · rw [decide_eq_false (by omega), Bool.false_and]
      refine Nat.testBit_lt_two_pow (Nat.lt_of_lt_of_le (m := 2 ^ (n + 1)) ?_ (Nat.pow_le_pow_right (by omega) (by omega)))
      have := bset_lt (p := p) n
      rw [Nat.pow_succ]
      split <;> omega
theorem bset_in {p : Nat → Bool} {n i : Nat} (h : i < n) : inS (bset p n) i = p i := by rw [inS_bit, bset_bit, decide_eq_true h, Bool.true_and]
theorem pow62 {n : Nat} (h : n < 62) : 2 ^ n < 2 ^ 62 := Nat.pow_lt_pow_right (by omega) h
/-- The next event joins a set. -/
theorem or_next {p : Nat → Bool} {n : Nat} (h : n < 62) : bits .or .i64 (bset p n : Int) (1 * 2 ^ (Int.toNat (n : Int))) = ((bset p n + 2 ^ n : Nat) : Int) := by
  have e : (1 * 2 ^ (Int.toNat (n : Int)) : Int) = ((2 ^ n : Nat) : Int) := by simp
  rw [e, bits_or (Nat.lt_trans (bset_lt n) (pow62 h)) (pow62 h), bset_or]
theorem shl_ok {n : Nat} (h : n < 62) : ((0 : Int) ≤ (n : Int) ∧ (n : Int) ≤ 64) ∧ rng (1 * 2 ^ (Int.toNat (n : Int))) := by
  refine ⟨by omega, ?_⟩
  have e : (1 * 2 ^ (Int.toNat (n : Int)) : Int) = ((2 ^ n : Nat) : Int) := by simp
  have h1 := pow62 h
  rw [big62] at h1
  rw [e]
  generalize 2 ^ n = z at h1 ⊢
  unfold rng; omega
end Go.Gg
