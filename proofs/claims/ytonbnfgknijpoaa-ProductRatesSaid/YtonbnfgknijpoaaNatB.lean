/- What the functions on natural numbers compute, told of their formulas: part B: bits, shifts, division by a word. Conditions: none. -/
import Derived.Test.YtonbnfgknijpoaaNatA
import Derived.KernelRfl
namespace Go.Gg

theorem or_nat {x y i : Nat} (hx : x < 2 ^ i) (hy : 2 ^ i ∣ y) : y ||| x = y + x := by
  obtain ⟨z, rfl⟩ := hy
  rw [Nat.mul_comm, ← Nat.shiftLeft_eq, Nat.shiftLeft_add_eq_or_of_lt hx]
theorem or_u64 {x y : Int} (i : Nat) (hx : 0 ≤ x) (hxi : x < 2 ^ i) (hy : 0 ≤ y) (hyi : y % 2 ^ i = 0) (hs : y + x < 18446744073709551616) : bits .or .u64 y x = y + x := by
  obtain ⟨m, rfl⟩ := Int.eq_ofNat_of_zero_le hx
  obtain ⟨n, rfl⟩ := Int.eq_ofNat_of_zero_le hy
  have h1 : m < 2 ^ i := by exact_mod_cast hxi
  have h2 : 2 ^ i ∣ n := by
    have : (n : Int) % ((2 ^ i : Nat) : Int) = 0 := by simpa using hyi
    exact Nat.dvd_of_mod_eq_zero (by omega)
  have h3 := or_nat h1 h2
  show IntKind.u64.wrap (((BitVec.ofInt 64 (n : Int)) ||| (BitVec.ofInt 64 (m : Int))).toNat : Int) = _
  rw [wrap_u64, BitVec.toNat_or, BitVec.toNat_ofInt, BitVec.toNat_ofInt]
  have e1 : ((n : Int) % ((2 ^ 64 : Nat) : Int)).toNat = n := by omega
  have e2 : ((m : Int) % ((2 ^ 64 : Nat) : Int)).toNat = m := by omega
  rw [e1, e2, h3]
  omega
theorem or_u64' {x y : Int} (i : Nat) (hx : 0 ≤ x) (hxi : x < 2 ^ i) (hy : 0 ≤ y) (hyi : y % 2 ^ i = 0) (hs : y + x < 18446744073709551616) : bits .or .u64 x y = y + x := by
  rw [← or_u64 i hx hxi hy hyi hs]
  show IntKind.u64.wrap (((BitVec.ofInt 64 x) ||| (BitVec.ofInt 64 y)).toNat : Int) = IntKind.u64.wrap (((BitVec.ofInt 64 y) ||| (BitVec.ofInt 64 x)).toNat : Int)
  rw [BitVec.or_comm]
theorem or_u32' {x y : Int} (i : Nat) (hx : 0 ≤ x) (hxi : x < 2 ^ i) (hy : 0 ≤ y) (hyi : y % 2 ^ i = 0) (hs : y + x < 4294967296) : bits .or .u32 x y = y + x := by
  obtain ⟨m, rfl⟩ := Int.eq_ofNat_of_zero_le hx
  obtain ⟨n, rfl⟩ := Int.eq_ofNat_of_zero_le hy
  have h1 : m < 2 ^ i := by exact_mod_cast hxi
  have h2 : 2 ^ i ∣ n := by
    have : (n : Int) % ((2 ^ i : Nat) : Int) = 0 := by simpa using hyi
    exact Nat.dvd_of_mod_eq_zero (by omega)
  have h3 := or_nat h1 h2
  show IntKind.u32.wrap (((BitVec.ofInt 32 (m : Int)) ||| (BitVec.ofInt 32 (n : Int))).toNat : Int) = _
  rw [wrap_u32, BitVec.toNat_or, BitVec.toNat_ofInt, BitVec.toNat_ofInt]
  have e1 : ((n : Int) % ((2 ^ 32 : Nat) : Int)).toNat = n := by omega
  have e2 : ((m : Int) % ((2 ^ 32 : Nat) : Int)).toNat = m := by omega
  rw [e1, e2, Nat.or_comm, h3]
  omega

/-- How many bits a number has. -/
def blen (n : Nat) : Nat := if n = 0 then 0 else n.log2 + 1
theorem blen_zero : blen 0 = 0 := rfl
theorem blen_lt {n : Nat} : n < 2 ^ blen n := by
  unfold blen
  split
  · omega
  · exact Nat.lt_log2_self
theorem blen_le {n : Nat} (h : n ≠ 0) : 2 ^ (blen n - 1) ≤ n := by
  unfold blen
  rw [if_neg h]
  exact Nat.log2_self_le h
theorem blen_uniq {n k : Nat} (h : n < 2 ^ k) (h' : k ≠ 0 → 2 ^ (k - 1) ≤ n) : blen n = k := by
  by_cases h0 : n = 0
  · subst h0
    cases k with
    | zero => rfl
    | succ k => have := h' (by omega); have : 0 < 2 ^ k := Nat.pow_pos (by omega); simp at *
  · have a := blen_lt (n := n)
    have b := blen_le h0
    have hk : k ≠ 0 := by rintro rfl; simp at h; omega
    have c := h' hk
    have hb : blen n ≠ 0 := by unfold blen; rw [if_neg h0]; omega
    rcases Nat.lt_trichotomy (blen n) k with hlt | he | hgt
    · have : 2 ^ blen n ≤ 2 ^ (k - 1) := Nat.pow_le_pow_right (by omega) (by omega)
      omega
    · exact he
    · have : 2 ^ k ≤ 2 ^ (blen n - 1) := Nat.pow_le_pow_right (by omega) (by omega)
      omega
theorem blen_shift {n k : Nat} (h : 2 ^ k ≤ n) : blen n = blen (n / 2 ^ k) + k := by
  have hp : 0 < 2 ^ k := Nat.pow_pos (by omega)
  have hq : n / 2 ^ k ≠ 0 := by have := Nat.div_pos h hp; omega
  have a := blen_lt (n := n / 2 ^ k)
  have b := blen_le hq
  have hb : blen (n / 2 ^ k) ≠ 0 := by unfold blen; rw [if_neg hq]; omega
  refine blen_uniq ?_ (fun _ => ?_)
  · rw [Nat.pow_add]
    rw [Nat.div_lt_iff_lt_mul hp] at a
    exact a
  · have e : blen (n / 2 ^ k) + k - 1 = (blen (n / 2 ^ k) - 1) + k := by omega
    rw [e, Nat.pow_add]
    rw [Nat.le_div_iff_mul_le hp] at b
    exact b
theorem tab_all : (List.range 256).all (fun k => byteAt str_633d862b k == (blen k : Int)) = true := by kernel_rfl
theorem tab_at {k : Nat} (h : k < 256) : byteAt str_633d862b k = (blen k : Int) := by
  have := List.all_eq_true.1 tab_all k (by simpa using h)
  simpa using this
theorem tab_size : str_633d862b.size = 256 := by kernel_rfl

theorem len32_s {x : Nat} {Q : Int → Prop} (hx : x < 4294967296) (h : Q (blen x)) : math_bits_Len32_W (x : Int) Q := by
  refine ⟨fun y => ∃ z k : Nat, y = ((z : Int), (k : Int)) ∧ z < 65536 ∧ k ≤ 16 ∧ blen x = blen z + k, ?_, ?_⟩
  · refine condT (fun hc => ⟨x / 65536, 16, ?_, by omega, by omega, ?_⟩) (fun hc => ⟨x, 0, rfl, by omega, by omega, rfl⟩)
    · show ((x : Int) / 65536, (16 : Int)) = _
      rw [Prod.mk.injEq]; exact ⟨by omega, rfl⟩
    · exact blen_shift (k := 16) (by omega)
  · rintro _ ⟨z, k, rfl, hz, hk, hb⟩
    refine ⟨fun y => ∃ z k : Nat, y = ((z : Int), (k : Int)) ∧ z < 256 ∧ k ≤ 24 ∧ blen x = blen z + k, ?_, ?_⟩
    · refine condT (fun hc => ⟨by unfold rng; omega, z / 256, k + 8, ?_, by omega, by omega, ?_⟩) (fun hc => ⟨z, k, rfl, by omega, by omega, hb⟩)
      · show ((z : Int) / 256, (k : Int) + 8) = _
        rw [Prod.mk.injEq]; exact ⟨by omega, by omega⟩
      · have h8 := blen_shift (n := z) (k := 8) (by omega)
        have e : z / 2 ^ 8 = z / 256 := rfl
        rw [e] at h8
        omega
    · rintro _ ⟨z, k, rfl, hz, hk, hb⟩
      show (_ ∧ _)
      have hw : IntKind.u8.wrap (z : Int) = z := by rw [wrap_u8]; omega
      have hz' : (blen z : Int) ≤ 8 := by
        have : blen z ≤ 8 := by
          by_cases h0 : z = 0
          · subst h0; simp [blen]
          · have := blen_le h0
            rcases Nat.lt_or_ge 8 (blen z) with h8 | h8
            · have : 2 ^ 8 ≤ 2 ^ (blen z - 1) := Nat.pow_le_pow_right (by omega) (by omega)
              omega
            · exact h8
        omega
      rw [hw, tab_size]
      have e : (Int.toNat (z : Int)) = z := by omega
      rw [e, tab_at hz, rng_wrap (by unfold rng; omega)]
      refine ⟨⟨by omega, by omega⟩, by unfold rng; omega, letIn ?_⟩
      have : (k : Int) + (blen z : Int) = ((blen x : Nat) : Int) := by omega
      rw [this]
      exact h
theorem blen_le32 {x : Nat} (hx : x < 4294967296) : blen x ≤ 32 := by
  by_cases h0 : x = 0
  · subst h0; simp [blen]
  · have := blen_le h0
    rcases Nat.lt_or_ge 32 (blen x) with h8 | h8
    · have : 2 ^ 32 ≤ 2 ^ (blen x - 1) := Nat.pow_le_pow_right (by omega) (by omega)
      omega
    · exact h8
theorem lz32_s {x : Nat} {Q : Int → Prop} (hx : x < 4294967296) (h : Q ((32 - blen x : Nat) : Int)) : math_bits_LeadingZeros32_W (x : Int) Q := by
  refine len32_s hx ?_
  have h1 := blen_le32 hx
  refine ⟨by unfold rng; omega, ?_⟩
  have : (32 : Int) - (blen x : Int) = ((32 - blen x : Nat) : Int) := by omega
  rw [this]
  exact h
end Go.Gg
