/- What the functions on natural numbers compute, told of their formulas: part C: shifts, division by a word, bits. Conditions: none. -/
import Derived.Test.YtonbnfgknijpoaaNatB
namespace Go.Gg

theorem two_split {n : Nat} (h : n ≤ 32) : (2 : Int) ^ n * 2 ^ (32 - n) = 4294967296 := by
  rw [← Int.pow_add]
  have : n + (32 - n) = 32 := by omega
  rw [this]; rfl
theorem pow2_pos (n : Nat) : (0 : Int) < 2 ^ n := Int.pow_pos (by omega)

theorem natural_left_s {a : List Int} {n : Nat} {Q : List Int → Prop} (ha : Words a) (la : a.length ≤ 1099511627775) (hn : n ≤ 32) (h : ∀ out, Words out → out.length = a.length + 1 → val out = val a * 2 ^ n → Q out) : natural_left_W a (n : Int) Q := by
  have hL : (a.length : Int) + 1 = ((a.length + 1 : Nat) : Int) := by omega
  unfold natural_left_W
  rw [hL]
  have hs := two_split hn
  have hpp := pow2_pos n
  have hqp := pow2_pos (32 - n)
  generalize hp : (2 : Int) ^ n = p at *
  generalize (2 : Int) ^ (32 - n) = q at *
  have hple : p ≤ 4294967296 := by
    have : p * 1 ≤ p * q := Int.mul_le_mul_of_nonneg_left (by omega) (by omega)
    omega
  have hdvd : p ∣ 4294967296 := ⟨q, hs.symm⟩
  refine ⟨by unfold rng; omega, mk_ok (by omega) (by omega), fun y => ∃ i : Nat, y.1 = i ∧ i ≤ a.length ∧ y.2.length = a.length + 1 ∧ Words y.2 ∧ (∀ k, i < k → y.2.getD k 0 = 0) ∧ y.2.getD i 0 < p ∧ pv y.2 (i + 1) = pv a i * p, fun y => a.length - y.1.toNat,
    ⟨0, rfl, by omega, by simp [rep'], Words.rep _, fun k hk => ?_, ?_, ?_⟩, ?_⟩
  · show (List.replicate (a.length + 1) (0 : Int)).getD k 0 = 0
    rw [List.getD_eq_getElem?_getD, List.getElem?_replicate]; split <;> rfl
  · show (List.replicate (a.length + 1) (0 : Int)).getD 0 0 < p
    simp; omega
  · show pv (List.replicate (a.length + 1) (0 : Int)) 1 = _
    rw [pv_rep]; simp [pv]
  rintro ⟨x, out⟩ ⟨i, hx, hi, hlen, hw, hz, hlow, hpv⟩
  simp only at hx hi hlen hw hz hlow hpv
  subst hx
  have hxi := ha i
  have hoi := hw i
  refine condT (fun hlt => ⟨⟨by omega, hlt⟩, ⟨by omega, by omega⟩, ?_⟩) (fun hge => ?_)
  · rw [at_nat, Int.toNat_natCast, hp]
    have hy0 : 0 ≤ a.getD i 0 * p := Int.mul_nonneg hxi.1 (by omega)
    have hy1 : a.getD i 0 * p < 4294967296 * p := Int.mul_lt_mul_of_pos_right hxi.2 hpp
    have hy2 : 4294967296 * p ≤ 4294967296 * 4294967296 := Int.mul_le_mul_of_nonneg_left hple (by omega)
    rw [wrap_u64_id hxi.1 (by omega), wrap_u64_id hy0 (by omega)]
    refine letIn ?_
    have hdy : p ∣ a.getD i 0 * p := ⟨_, Int.mul_comm _ _⟩
    have hhi : a.getD i 0 * p / 4294967296 < p := by
      rw [Int.ediv_lt_iff_lt_mul (by omega)]
      rw [Int.mul_comm p]; exact hy1
    generalize hv : a.getD i 0 * p = y at *
    refine ⟨⟨by omega, by omega⟩, ⟨by omega, by omega⟩, by unfold rng; omega, ⟨by omega, by omega⟩, by unfold rng; omega, ?_, by dsimp only; omega⟩
    have e1 : (i : Int) + 1 = ((i + 1 : Nat) : Int) := by omega
    have e32 : y / 2 ^ Int.toNat 32 = y / 4294967296 := rfl
    have hm : (y % 4294967296) % p = 0 := by rw [Int.emod_emod_of_dvd _ hdvd]; exact Int.emod_eq_zero_of_dvd hdy
    have hh0 : 0 ≤ y / 4294967296 := by omega
    have hor : bits .or .u32 (out.getD i 0) (y % 4294967296) = y % 4294967296 + out.getD i 0 := by
      refine or_u32' n hoi.1 (by rw [hp]; exact hlow) (by omega) (by rw [hp]; exact hm) ?_
      -- y mod 2^32 is a multiple of p, so at most 2^32 - p
      obtain ⟨z, hz'⟩ := Int.dvd_of_emod_eq_zero hm
      have : z < q := by
        rcases Int.lt_or_le z q with h1 | h1
        · exact h1
        · have : p * q ≤ p * z := Int.mul_le_mul_of_nonneg_left h1 (by omega)
          omega
      have : p * z ≤ p * (q - 1) := Int.mul_le_mul_of_nonneg_left (by omega) (by omega)
      rw [Int.mul_sub, hs] at this
      omega
    rw [e1, at_nat, set_nat, set_nat, e32, wrap_u32, wrap_u32, hor]
    have hlo : y % 4294967296 + out.getD i 0 < 4294967296 := by
      obtain ⟨z, hz'⟩ := Int.dvd_of_emod_eq_zero hm
      have : z < q := by
        rcases Int.lt_or_le z q with h1 | h1
        · exact h1
        · have : p * q ≤ p * z := Int.mul_le_mul_of_nonneg_left h1 (by omega)
          omega
      have : p * z ≤ p * (q - 1) := Int.mul_le_mul_of_nonneg_left (by omega) (by omega)
      rw [Int.mul_sub, hs] at this
      omega
    have hmod : y / 4294967296 % 4294967296 = y / 4294967296 := by omega
    rw [hmod]
    refine ⟨i + 1, rfl, by omega, by simp [hlen], (hw.set _ (by omega) (by omega)).set _ hh0 (by omega), fun k hk => ?_, ?_, ?_⟩
    · show ((out.set i _).set (i + 1) _).getD k 0 = 0
      rw [getD_set_of_ne (by omega), getD_set_of_ne (by omega)]
      exact hz k (by omega)
    · show ((out.set i _).set (i + 1) _).getD (i + 1) 0 < p
      rw [getD_set_self (by simp; omega)]
      exact hhi
    · show pv ((out.set i _).set (i + 1) _) (i + 1 + 1) = _
      rw [pv_set (by simp; omega), pv_set (by omega), pv, Int.pow_succ]
      rw [pv] at hpv
      have s4 := Int.add_mul (pv a i) (a.getD i 0 * 4294967296 ^ i) p
      have s1 := split_w y (4294967296 ^ i)
      have s2 := Int.add_mul (y % 4294967296) (out.getD i 0) (4294967296 ^ i)
      have s3 : a.getD i 0 * 4294967296 ^ i * p = y * 4294967296 ^ i := by rw [← hv, Int.mul_assoc, Int.mul_comm _ p, ← Int.mul_assoc]
      omega
  · obtain rfl : i = a.length := by omega
    refine h out hw hlen ?_
    have a1 := val_pv hw
    have a2 := val_pv ha
    rw [hlen, hpv, ← a2] at a1
    have : ((val a * 2 ^ n : Nat) : Int) = (val a : Int) * p := by rw [← hp]; simp
    have : (val out : Int) = ((val a * 2 ^ n : Nat) : Int) := by rw [this]; exact a1
    omega

theorem natural_right_s {a : List Int} {n : Nat} {Q : List Int → Prop} (ha : Words a) (la : SM a) (hn : n ≤ 32) (h : ∀ out, Words out → out.length = a.length → val out = val a / 2 ^ n → Q out) : natural_right_W a (n : Int) Q := by
  unfold SM at la
  unfold natural_right_W
  have hs := two_split hn
  have hpp := pow2_pos n
  have hqp := pow2_pos (32 - n)
  generalize hp : (2 : Int) ^ n = p at *
  generalize (2 : Int) ^ (32 - n) = q at *
  have hdvd : p ∣ 4294967296 := ⟨q, hs.symm⟩
  refine ⟨mk_ok (by omega) la, fun y => ∃ i : Nat, y.1 = i ∧ i ≤ a.length ∧ y.2.length = a.length ∧ Words y.2 ∧ pv y.2 i * p = pv a i - a.getD 0 0 % p + (a.getD i 0 % p) * 4294967296 ^ i, fun y => a.length - y.1.toNat,
    ⟨0, rfl, by omega, by simp [rep'], Words.rep _, by simp [pv]; omega⟩, ?_⟩
  rintro ⟨x, out⟩ ⟨i, hx, hi, hlen, hw, hpv⟩
  simp only at hx hi hlen hw hpv
  subst hx
  have h0 := ha i
  have h1 := ha (i + 1)
  have e1 : (i : Int) + 1 = ((i + 1 : Nat) : Int) := by omega
  refine condT (fun hlt => natural_word_s ha ⟨by unfold rng; omega, ?_⟩) (fun hge => ?_)
  · rw [e1]
    refine natural_word_s ha ⟨⟨by omega, by omega⟩, ⟨by omega, by omega⟩, by unfold rng; omega, ?_, by dsimp only; omega⟩
    have e32 : (2 : Int) ^ Int.toNat 32 = 4294967296 := rfl
    rw [e32, Int.toNat_natCast, hp, wrap_u64_id (by omega) (by omega), or_u64' 32 h0.1 h0.2 (by omega) (by show _ % 4294967296 = 0; omega) (by omega), set_nat, wrap_u32]
    -- (a1 W + a0) / p mod W = a0 / p + (a1 mod p) q
    generalize ha0 : a.getD i 0 = x0 at *
    generalize ha1 : a.getD (i + 1) 0 = x1 at *
    have hx0 : 0 ≤ x0 / p := Int.ediv_nonneg h0.1 (by omega)
    have hx0' : x0 / p < q := by rw [Int.ediv_lt_iff_lt_mul hpp, Int.mul_comm, hs]; exact h0.2
    have hm0 : 0 ≤ x1 % p := Int.emod_nonneg _ (by omega)
    have hm1 : x1 % p < p := Int.emod_lt_of_pos _ hpp
    have hdv : (x1 * 4294967296 + x0) / p = x1 * q + x0 / p := by
      rw [← hs, Int.mul_left_comm, Int.add_comm, Int.add_mul_ediv_left _ _ (by omega), Int.add_comm]
    have hk : (x1 * 4294967296 + x0) / p % 4294967296 = (x1 % p) * q + x0 / p := by
      have d1 : x1 = p * (x1 / p) + x1 % p := (Int.mul_ediv_add_emod x1 p).symm
      have d2 : x1 * q + x0 / p = (x1 % p) * q + x0 / p + 4294967296 * (x1 / p) := by
        have : x1 * q = (p * (x1 / p) + x1 % p) * q := by rw [← d1]
        rw [this, Int.add_mul, Int.mul_right_comm, hs]; omega
      rw [hdv, d2, Int.add_mul_emod_self_left]
      refine Int.emod_eq_of_lt ?_ ?_
      · have := Int.mul_nonneg hm0 (Int.le_of_lt hqp); omega
      · have : (x1 % p) * q ≤ (p - 1) * q := Int.mul_le_mul_of_nonneg_right (by omega) (by omega)
        rw [Int.sub_mul, hs] at this; omega
    rw [hk]
    have hq0 := Int.mul_nonneg hm0 (Int.le_of_lt hqp)
    have hq1 : (x1 % p) * q ≤ (p - 1) * q := Int.mul_le_mul_of_nonneg_right (by omega) (by omega)
    rw [Int.sub_mul, hs] at hq1
    refine ⟨i + 1, rfl, by omega, by simp [hlen], hw.set _ (by omega) (by omega), ?_⟩
    show pv (out.set i (x1 % p * q + x0 / p)) (i + 1) * p = pv a (i + 1) - _ + _
    rw [pv_set (by omega), pv, Int.add_mul, hpv, ha0, ha1, Int.pow_succ]
    have d0 : x0 = p * (x0 / p) + x0 % p := (Int.mul_ediv_add_emod x0 p).symm
    have s1 : (x1 % p * q + x0 / p) * 4294967296 ^ i * p = x1 % p * (4294967296 ^ i * 4294967296) + (p * (x0 / p)) * 4294967296 ^ i := by
      rw [Int.add_mul, Int.add_mul]
      congr 1
      · rw [← hs, Int.mul_assoc, Int.mul_assoc, Int.mul_left_comm q, Int.mul_comm q p]
      · rw [Int.mul_right_comm, Int.mul_comm (x0 / p)]
    have s2 : x0 * 4294967296 ^ i = (p * (x0 / p)) * 4294967296 ^ i + x0 % p * 4294967296 ^ i := by
      rw [← Int.add_mul, ← d0]
    omega
  · obtain rfl : i = a.length := by omega
    refine h out hw hlen ?_
    have a1 := val_pv hw
    have a2 := val_pv ha
    rw [hlen] at a1
    rw [getD_ge (Nat.le_refl a.length), Int.zero_emod, Int.zero_mul, ← a2, ← a1] at hpv
    have hr0 : 0 ≤ a.getD 0 0 % p := Int.emod_nonneg _ (by omega)
    have hr1 : a.getD 0 0 % p < p := Int.emod_lt_of_pos _ hpp
    have e : (val a : Int) / p = val out := by
      have : (val a : Int) = p * val out + a.getD 0 0 % p := by rw [Int.mul_comm]; omega
      rw [this, Int.add_comm, Int.add_mul_ediv_left _ _ (by omega), Int.ediv_eq_zero_of_lt hr0 hr1]; omega
    have e2 : ((val a / 2 ^ n : Nat) : Int) = (val a : Int) / p := by rw [← hp]; simp
    omega

theorem natural_small_s {a : List Int} {b : Int} {Q : List Int → Int → Prop} (ha : Words a) (la : SM a) (hb0 : 0 < b) (hb1 : b < 4294967296) (h : Q (lim (val a / b.toNat)) ((val a % b.toNat : Nat) : Int)) : natural_small_W a b Q := by
  unfold SM at la
  unfold natural_small_W
  rw [wrap_u64_id (by omega) (by omega)]
  refine ⟨mk_ok (by omega) la, by unfold rng; omega, fun y => ∃ j : Nat, y.2.1 = (j : Int) - 1 ∧ j ≤ a.length ∧ y.2.2.length = a.length ∧ Words y.2.2 ∧ (∀ k, k < j → y.2.2.getD k 0 = 0) ∧ 0 ≤ y.1 ∧ y.1 < b ∧ pv y.2.2 a.length * b + y.1 * 4294967296 ^ j = pv a a.length - pv a j,
    fun y => (y.2.1 + 1).toNat, ⟨a.length, rfl, by omega, by simp [rep'], Words.rep _, fun k hk => ?_, by omega, hb0, ?_⟩, ?_⟩
  · show (List.replicate a.length (0 : Int)).getD k 0 = 0
    rw [List.getD_eq_getElem?_getD, List.getElem?_replicate]; split <;> rfl
  · show pv (List.replicate a.length (0 : Int)) a.length * b + 0 * _ = _
    rw [pv_rep]; simp
  rintro ⟨r, x, out⟩ ⟨j, hx, hj, hlen, hw, hz, hr0, hr1, hpv⟩
  simp only at hx hj hlen hw hz hr0 hr1 hpv
  subst hx
  have hj1 : ((j : Int) - 1).toNat = j - 1 := by omega
  refine condT (fun hc => ⟨⟨by omega, by omega⟩, ?_⟩) (fun hc => ?_)
  · obtain ⟨i, rfl⟩ : ∃ i, j = i + 1 := ⟨j - 1, by omega⟩
    have ei : ((i + 1 : Nat) : Int) - 1 = (i : Int) := by omega
    have h0 := ha i
    have e32 : (2 : Int) ^ Int.toNat 32 = 4294967296 := rfl
    rw [ei, at_nat, e32, wrap_u64_id (by omega) (by omega), wrap_u64_id (by omega) (by omega), or_u64 32 h0.1 h0.2 (by omega) (by show _ % 4294967296 = 0; omega) (by omega)]
    refine letIn ⟨by omega, ⟨by omega, by omega⟩, by omega, by unfold rng; omega, ?_, by dsimp only; omega⟩
    generalize hv : r * 4294967296 + a.getD i 0 = v
    have hv0 : 0 ≤ v := by omega
    rw [Int.tdiv_eq_ediv_of_nonneg hv0, Int.tmod_eq_emod_of_nonneg hv0, set_nat]
    have hq0 : 0 ≤ v / b := Int.ediv_nonneg hv0 (by omega)
    have hq1 : v / b < 4294967296 := by
      rw [Int.ediv_lt_iff_lt_mul hb0, ← hv]
      have : r * 4294967296 ≤ (b - 1) * 4294967296 := Int.mul_le_mul_of_nonneg_right (by omega) (by omega)
      omega
    rw [wrap_u64_id hq0 (by omega), wrap_u32]
    have hqm : v / b % 4294967296 = v / b := by omega
    rw [hqm]
    refine ⟨i, rfl, by omega, by simp [hlen], hw.set _ hq0 hq1, fun k hk => ?_, Int.emod_nonneg _ (by omega), Int.emod_lt_of_pos _ hb0, ?_⟩
    · show (out.set i _).getD k 0 = 0
      rw [getD_set_of_ne (by omega)]; exact hz k (by omega)
    · show pv (out.set i (v / b)) a.length * b + v % b * _ = _
      rw [pv_set_full (by omega) a.length (by omega), hz i (by omega), Int.sub_zero, Int.add_mul]
      rw [pv, Int.pow_succ] at hpv
      have d0 : v = b * (v / b) + v % b := (Int.mul_ediv_add_emod v b).symm
      have s1 : v / b * 4294967296 ^ i * b + v % b * 4294967296 ^ i = v * 4294967296 ^ i := by
        rw [Int.mul_right_comm, ← Int.add_mul, Int.mul_comm (v / b), ← d0]
      have s2 : v * 4294967296 ^ i = r * (4294967296 ^ i * 4294967296) + a.getD i 0 * 4294967296 ^ i := by
        rw [← hv, Int.add_mul, Int.mul_assoc, Int.mul_comm 4294967296]
      omega
  · obtain rfl : j = 0 := by omega
    refine natural_trim_s hw (by unfold SM; omega) ?_
    have a1 := val_pv hw
    have a2 := val_pv ha
    rw [hlen] at a1
    simp only [pv, Int.pow_zero, Int.mul_one, Int.sub_zero] at hpv
    rw [← a1, ← a2] at hpv
    obtain ⟨c, rfl⟩ : ∃ c : Nat, b = c := ⟨b.toNat, by omega⟩
    rw [Int.toNat_natCast] at h
    have hq : val a / c = val out := by
      have : val a = c * val out + r.toNat := by
        have : ((val a : Nat) : Int) = ((c * val out + r.toNat : Nat) : Int) := by
          rw [Int.natCast_add, Int.natCast_mul, Int.mul_comm]; omega
        omega
      rw [this, Nat.add_comm, Nat.add_mul_div_left _ _ (by omega), Nat.div_eq_of_lt (by omega)]; omega
    have hm : val a % c = r.toNat := by
      have : val a = c * val out + r.toNat := by
        have : ((val a : Nat) : Int) = ((c * val out + r.toNat : Nat) : Int) := by
          rw [Int.natCast_add, Int.natCast_mul, Int.mul_comm]; omega
        omega
      rw [this, Nat.add_comm, Nat.add_mul_mod_self_left, Nat.mod_eq_of_lt (by omega)]
    rw [hq, hm] at h
    rw [wrap_u32]
    have e : r % 4294967296 = ((r.toNat : Nat) : Int) := by omega
    rw [e]
    exact h
end Go.Gg
