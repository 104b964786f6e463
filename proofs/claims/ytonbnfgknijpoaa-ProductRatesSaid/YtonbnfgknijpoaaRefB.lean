/- What the functions of the first reference compute, told of their formulas: part B: shifts, bits. Conditions: none. -/
import Derived.Test.YtonbnfgknijpoaaRefA
namespace Go.Gg

theorem ref01_up_s {a : List Int} {n : Nat} {Q : List Int → Prop} (ha : Words a) (la : a.length ≤ 1099511627775) (hn : n ≤ 32) (h : Q (lim (val a * 2 ^ n))) : ref01_up_W a (n : Int) Q := by
  have hpp := pow2_pos n
  have hs := two_split hn
  have hqp := pow2_pos (32 - n)
  have hple : (2 : Int) ^ n ≤ 4294967296 := by
    have : (2 : Int) ^ n * 1 ≤ 2 ^ n * 2 ^ (32 - n) := Int.mul_le_mul_of_nonneg_left (by omega) (by omega)
    omega
  refine ⟨fun y => ∃ i : Nat, y.2.1 = i ∧ i ≤ a.length ∧ y.2.2.length = i ∧ Words y.2.2 ∧ 0 ≤ y.1 ∧ y.1 < 2 ^ n ∧ pv y.2.2 i + y.1 * 4294967296 ^ i = pv a i * 2 ^ n, fun y => a.length - y.2.1.toNat, ⟨0, rfl, by omega, rfl, Words.nil, by show (0 : Int) ≤ 0; omega, hpp, by simp [pv]⟩, ?_⟩
  rintro ⟨c, x, out⟩ ⟨i, hx, hi, hlen, hw, hc0, hc1, hpv⟩
  simp only at hx hi hlen hw hc0 hc1 hpv
  subst hx
  have hxi := ha i
  refine condT (fun hlt => ⟨⟨by omega, hlt⟩, ⟨by omega, by omega⟩, ?_⟩) (fun hge => ?_)
  · rw [at_nat, Int.toNat_natCast]
    have hy0 : 0 ≤ a.getD i 0 * 2 ^ n := Int.mul_nonneg hxi.1 (by omega)
    have hy1 : a.getD i 0 * 2 ^ n ≤ 4294967295 * 2 ^ n := Int.mul_le_mul_of_nonneg_right (by omega) (by omega)
    have hmod : a.getD i 0 * 2 ^ n % 2 ^ n = 0 := Int.mul_emod_left _ _
    have hor : bits .or .u64 c (a.getD i 0 * 2 ^ n) = a.getD i 0 * 2 ^ n + c := or_u64' n hc0 hc1 hy0 hmod (by omega)
    rw [wrap_u64_id hxi.1 (by omega), wrap_u64_id hy0 (by omega), hor]
    refine letIn ⟨app_ok (by omega), by unfold rng; omega, ?_, by dsimp only; omega⟩
    have e32 : ∀ z : Int, z / 2 ^ Int.toNat 32 = z / 4294967296 := fun _ => rfl
    rw [e32, wrap_u32]
    generalize hd : a.getD i 0 * 2 ^ n + c = d
    refine ⟨i + 1, rfl, by omega, by simp [hlen], hw.append (Words.one (by omega) (by omega)), by show 0 ≤ d / 4294967296; omega, ?_, ?_⟩
    · show d / 4294967296 < 2 ^ n
      rw [Int.ediv_lt_iff_lt_mul (by omega)]; omega
    · show pv (out ++ [d % 4294967296]) (i + 1) + d / 4294967296 * _ = _
      rw [pv_snoc hlen, Int.pow_succ, Int.add_assoc, split_w, ← hd, pv, Int.add_mul, Int.add_mul, ← hpv, Int.mul_right_comm]
      omega
  · obtain rfl : i = a.length := by omega
    rw [wrap_u32]
    have hcm : c % 4294967296 = c := by omega
    rw [hcm]
    refine ⟨app_ok (by omega), ref01_Trim_s (hw.append (Words.one hc0 (by omega))) (by simp [SM]; omega) ?_⟩
    have e : val (out ++ [c]) = val a * 2 ^ n := by
      have a1 := val_pv' (hw.append (Words.one hc0 (by omega : c < 4294967296))) (i := a.length + 1) (by simp; omega)
      rw [pv_snoc hlen, hpv, ← val_pv ha] at a1
      have : ((val a * 2 ^ n : Nat) : Int) = (val a : Int) * 2 ^ n := by simp
      omega
    rw [e]; exact h

theorem ref01_down_s {a : List Int} {n : Nat} {Q : List Int → Prop} (ha : Words a) (la : SM a) (hn : n ≤ 32) (h : Q (lim (val a / 2 ^ n))) : ref01_down_W a (n : Int) Q := by
  unfold SM at la
  have hs := two_split hn
  have hpp := pow2_pos n
  have hqp := pow2_pos (32 - n)
  unfold ref01_down_W
  generalize hp : (2 : Int) ^ n = p at *
  generalize (2 : Int) ^ (32 - n) = q at *
  refine ⟨fun y => ∃ i : Nat, y.1 = i ∧ i ≤ a.length ∧ y.2.length = i ∧ Words y.2 ∧ pv y.2 i * p = pv a i - a.getD 0 0 % p + (a.getD i 0 % p) * 4294967296 ^ i, fun y => a.length - y.1.toNat,
    ⟨0, rfl, by omega, rfl, Words.nil, by simp [pv]; omega⟩, ?_⟩
  rintro ⟨x, out⟩ ⟨i, hx, hi, hlen, hw, hpv⟩
  simp only at hx hi hlen hw hpv
  subst hx
  have h0 := ha i
  have h1 := ha (i + 1)
  have e1 : (i : Int) + 1 = ((i + 1 : Nat) : Int) := by omega
  refine condT (fun hlt => ref01_word_s ha ⟨by unfold rng; omega, ?_⟩) (fun hge => ?_)
  · rw [e1]
    refine ref01_word_s ha ⟨⟨by omega, by omega⟩, app_ok (by omega), by unfold rng; omega, ?_, by dsimp only; omega⟩
    have e32 : (2 : Int) ^ Int.toNat 32 = 4294967296 := rfl
    rw [e32, Int.toNat_natCast, hp, wrap_u64_id (by omega) (by omega), or_u64' 32 h0.1 h0.2 (by omega) (by show _ % 4294967296 = 0; omega) (by omega), wrap_u32]
    generalize ha0 : a.getD i 0 = x0 at *
    generalize ha1 : a.getD (i + 1) 0 = x1 at *
    have hx0 : 0 ≤ x0 / p := Int.ediv_nonneg h0.1 (by omega)
    have hx0' : x0 / p < q := by rw [Int.ediv_lt_iff_lt_mul hpp, Int.mul_comm, hs]; exact h0.2
    have hm0 : 0 ≤ x1 % p := Int.emod_nonneg _ (by omega)
    have hm1 : x1 % p < p := Int.emod_lt_of_pos _ hpp
    have hdv : (x1 * 4294967296 + x0) / p = x1 * q + x0 / p := by
      rw [← hs, Int.mul_left_comm, Int.add_comm, Int.add_mul_ediv_left _ _ (by omega), Int.add_comm]
    have hk : (x1 * 4294967296 + x0) / p % 4294967296 = (x1 % p) * q + x0 / p := by
      have d1 : x1 = p * (x1 / p) + x1 % p := (Int.mul_ediv_add_emod x1 p).symm
      have d2 : x1 * q + x0 / p = (x1 % p) * q + x0 / p + 4294967296 * (x1 / p) := by
        have : x1 * q = (p * (x1 / p) + x1 % p) * q := by rw [← d1]
        rw [this, Int.add_mul, Int.mul_right_comm, hs]; omega
      rw [hdv, d2, Int.add_mul_emod_self_left]
      refine Int.emod_eq_of_lt ?_ ?_
      · have := Int.mul_nonneg hm0 (Int.le_of_lt hqp); omega
      · have : (x1 % p) * q ≤ (p - 1) * q := Int.mul_le_mul_of_nonneg_right (by omega) (by omega)
        rw [Int.sub_mul, hs] at this; omega
    rw [hk]
    have hq0 := Int.mul_nonneg hm0 (Int.le_of_lt hqp)
    have hq1 : (x1 % p) * q ≤ (p - 1) * q := Int.mul_le_mul_of_nonneg_right (by omega) (by omega)
    rw [Int.sub_mul, hs] at hq1
    refine ⟨i + 1, rfl, by omega, by simp [hlen], hw.append (Words.one (by omega) (by omega)), ?_⟩
    show pv (out ++ [x1 % p * q + x0 / p]) (i + 1) * p = pv a (i + 1) - _ + _
    rw [pv_snoc hlen, pv, Int.add_mul, hpv, ha0, ha1, Int.pow_succ]
    have d0 : x0 = p * (x0 / p) + x0 % p := (Int.mul_ediv_add_emod x0 p).symm
    have s1 : (x1 % p * q + x0 / p) * 4294967296 ^ i * p = x1 % p * (4294967296 ^ i * 4294967296) + (p * (x0 / p)) * 4294967296 ^ i := by
      rw [Int.add_mul, Int.add_mul]
      congr 1
      · rw [← hs, Int.mul_assoc, Int.mul_assoc, Int.mul_left_comm q, Int.mul_comm q p]
      · rw [Int.mul_right_comm, Int.mul_comm (x0 / p)]
    have s2 : x0 * 4294967296 ^ i = (p * (x0 / p)) * 4294967296 ^ i + x0 % p * 4294967296 ^ i := by
      rw [← Int.add_mul, ← d0]
    omega
  · obtain rfl : i = a.length := by omega
    refine ref01_Trim_s hw (by unfold SM; omega) ?_
    have a1 := val_pv hw
    have a2 := val_pv ha
    rw [hlen] at a1
    rw [getD_ge (Nat.le_refl a.length), Int.zero_emod, Int.zero_mul, ← a2, ← a1] at hpv
    have hr0 : 0 ≤ a.getD 0 0 % p := Int.emod_nonneg _ (by omega)
    have hr1 : a.getD 0 0 % p < p := Int.emod_lt_of_pos _ hpp
    have e : (val a : Int) / p = val out := by
      have : (val a : Int) = p * val out + a.getD 0 0 % p := by rw [Int.mul_comm]; omega
      rw [this, Int.add_comm, Int.add_mul_ediv_left _ _ (by omega), Int.ediv_eq_zero_of_lt hr0 hr1]; omega
    have e2 : ((val a / 2 ^ n : Nat) : Int) = (val a : Int) / p := by rw [← hp]; simp
    have : val out = val a / 2 ^ n := by omega
    rw [this]; exact h

theorem and_one {y : Int} (h0 : 0 ≤ y) (h1 : y < 4294967296) : bits .and .u32 y 1 = y % 2 := by
  obtain ⟨m, rfl⟩ := Int.eq_ofNat_of_zero_le h0
  show IntKind.u32.wrap (((BitVec.ofInt 32 (m : Int)) &&& (BitVec.ofInt 32 1)).toNat : Int) = _
  rw [wrap_u32, BitVec.toNat_and, BitVec.toNat_ofInt, BitVec.toNat_ofInt]
  have e1 : ((m : Int) % ((2 ^ 32 : Nat) : Int)).toNat = m := by omega
  have e2 : ((1 : Int) % ((2 ^ 32 : Nat) : Int)).toNat = 1 := by omega
  rw [e1, e2, Nat.and_one_is_mod]
  omega
theorem and_two_pow' (m i : Nat) : m &&& 2 ^ i = if m.testBit i then 2 ^ i else 0 := by
  refine Nat.eq_of_testBit_eq (fun j => ?_)
  rw [Nat.testBit_and, Nat.testBit_two_pow]
  by_cases h : i = j
  · subst h
    cases hb : m.testBit i <;> simp [Nat.testBit_two_pow]
  · split <;> simp [h, Nat.testBit_two_pow]
theorem and_top {y : Int} (h0 : 0 ≤ y) (h1 : y < 4294967296) : bits .and .u32 y 2147483648 = if y < 2147483648 then 0 else 2147483648 := by
  obtain ⟨m, rfl⟩ := Int.eq_ofNat_of_zero_le h0
  show IntKind.u32.wrap (((BitVec.ofInt 32 (m : Int)) &&& (BitVec.ofInt 32 2147483648)).toNat : Int) = _
  rw [wrap_u32, BitVec.toNat_and, BitVec.toNat_ofInt, BitVec.toNat_ofInt]
  have e1 : ((m : Int) % ((2 ^ 32 : Nat) : Int)).toNat = m := by omega
  have e2 : ((2147483648 : Int) % ((2 ^ 32 : Nat) : Int)).toNat = 2 ^ 31 := by decide
  rw [e1, e2, and_two_pow']
  have : m.testBit 31 = decide (2147483648 ≤ m) := by
    rw [Nat.testBit_eq_decide_div_mod_eq]
    have e : m / 2 ^ 31 = m / 2147483648 := rfl
    rw [e]
    by_cases hm : 2147483648 ≤ m
    · have : m / 2147483648 = 1 := by omega
      rw [this]; simp [hm]
    · have : m / 2147483648 = 0 := by omega
      rw [this]; simp [hm]
  rw [this]
  by_cases hm : 2147483648 ≤ m
  · have h2 : ¬ ((m : Int) < 2147483648) := by omega
    simp only [hm, decide_true, if_true]
    show _ = if (m : Int) < 2147483648 then _ else _
    rw [if_neg h2]; rfl
  · have h2 : (m : Int) < 2147483648 := by omega
    simp only [hm, decide_false, Bool.false_eq_true, if_false]
    show _ = if (m : Int) < 2147483648 then _ else _
    rw [if_pos h2]; rfl

theorem blen_add {x p : Nat} (h : x < 2 ^ p) : blen (x + 2 ^ p) = p + 1 := by
  refine blen_uniq ?_ (fun _ => ?_)
  · rw [Nat.pow_succ]; omega
  · rw [Nat.add_sub_cancel]; omega
theorem ref01_Bits_s {a : List Int} {Q : Int → Prop} (ha : Words a) (la : SM a) (h : Q (blen (val a))) : ref01_Bits_W a Q := by
  unfold SM at la
  refine ⟨fun y => ∃ i : Nat, y.2 = i ∧ i ≤ a.length ∧ y.1 = ((blen (pv a i).toNat : Nat) : Int), fun y => a.length - y.2.toNat, ⟨0, rfl, by omega, rfl⟩, ?_⟩
  rintro ⟨n, x⟩ ⟨i, hx, hi, hn⟩
  simp only at hx hi hn
  subst hx hn
  have hxi := ha i
  obtain ⟨w, hw⟩ : ∃ w : Nat, a.getD i 0 = w := ⟨(a.getD i 0).toNat, by omega⟩
  obtain ⟨b1, b2⟩ := pv_bound ha i
  obtain ⟨A, hA⟩ : ∃ A : Nat, pv a i = A := ⟨(pv a i).toNat, by omega⟩
  have hW : (4294967296 : Int) ^ i = ((2 ^ (32 * i) : Nat) : Int) := by rw [Nat.pow_mul]; simp
  refine condT (fun hlt => ⟨⟨by omega, hlt⟩, ?_⟩) (fun hge => ?_)
  · refine ⟨fun y => ∃ k : Nat, y.2 = k ∧ k ≤ 32 ∧ y.1 = ((blen (A + w % 2 ^ k * 2 ^ (32 * i)) : Nat) : Int), fun y => 32 - y.2.toNat, ⟨0, rfl, by omega, ?_⟩, ?_⟩
    · show ((blen (pv a i).toNat : Nat) : Int) = _
      rw [hA]; simp [Nat.mod_one]
    rintro ⟨n, x⟩ ⟨k, hx, hk, hn⟩
    simp only at hx hk hn
    subst hx hn
    refine condT (fun hk2 => ⟨⟨by omega, by omega⟩, ?_⟩) (fun hk2 => ⟨by unfold rng; omega, ⟨i + 1, rfl, by omega, ?_⟩, by dsimp only; omega⟩)
    · have hpk : 0 < 2 ^ k := Nat.pow_pos (by omega)
      have ed : a.getD i 0 / 2 ^ k = ((w / 2 ^ k : Nat) : Int) := by rw [hw]; simp
      have hdle : w / 2 ^ k ≤ w := Nat.div_le_self _ _
      have hsucc : w % 2 ^ (k + 1) = w % 2 ^ k + 2 ^ k * (w / 2 ^ k % 2) := Nat.mod_pow_succ
      generalize w / 2 ^ k = z at *
      rw [at_nat, Int.toNat_natCast, ed, and_one (by omega) (by omega)]
      refine condE (fun he => ⟨by unfold rng; omega, by unfold rng; omega, by unfold rng; omega, by unfold rng; omega, ⟨k + 1, rfl, by omega, ?_⟩, by dsimp only; omega⟩) (fun he => ⟨by unfold rng; omega, ⟨k + 1, rfl, by omega, ?_⟩, by dsimp only; omega⟩)
      · have h2 : z % 2 = 1 := by omega
        show 32 * (i : Int) + k + 1 = _
        rw [hsucc, h2, Nat.mul_one]
        have e : A + (w % 2 ^ k + 2 ^ k) * 2 ^ (32 * i) = (A + w % 2 ^ k * 2 ^ (32 * i)) + 2 ^ (32 * i + k) := by
          rw [Nat.add_mul, Nat.pow_add, Nat.mul_comm (2 ^ (32 * i)) (2 ^ k)]; omega
        have hlt2 : A + w % 2 ^ k * 2 ^ (32 * i) < 2 ^ (32 * i + k) := by
          have h3 : w % 2 ^ k < 2 ^ k := Nat.mod_lt _ hpk
          have h4 : (w % 2 ^ k + 1) * 2 ^ (32 * i) ≤ 2 ^ k * 2 ^ (32 * i) := Nat.mul_le_mul_right _ h3
          rw [Nat.pow_add, Nat.mul_comm (2 ^ (32 * i)) (2 ^ k)]
          rw [Nat.add_mul] at h4
          omega
        rw [e, blen_add hlt2]; omega
      · have h2 : z % 2 = 0 := by omega
        show ((blen (A + w % 2 ^ k * 2 ^ (32 * i)) : Nat) : Int) = _
        rw [hsucc, h2, Nat.mul_zero, Nat.add_zero]
    · obtain rfl : k = 32 := by omega
      show ((blen (A + w % 2 ^ 32 * 2 ^ (32 * i)) : Nat) : Int) = ((blen (pv a (i + 1)).toNat : Nat) : Int)
      have hm : w % 2 ^ 32 = w := Nat.mod_eq_of_lt (by omega)
      have : (pv a (i + 1)).toNat = A + w * 2 ^ (32 * i) := by
        have : pv a (i + 1) = ((A + w * 2 ^ (32 * i) : Nat) : Int) := by rw [pv, hA, hw, hW, Int.natCast_add, Int.natCast_mul]
        omega
      rw [hm, this]
  · obtain rfl : i = a.length := by omega
    exact h
end Go.Gg
