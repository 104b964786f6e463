/- The marginals of the stationary distribution. Conditions: the numbers fit the machine. -/
import Derived.Test.YtonbnfgknijpoaaMb
import Derived.Test.YtonbnfgknijpoaaM50
namespace Go.Gg

theorem pr_lo {u : Nat → Rat} {n i : Nat} (hi : i < 2 ^ n) : pr u (n + 1) i = pr u n i * (1 - u n) := by rw [pr, Nat.div_eq_of_lt hi, if_pos rfl]
theorem pr_hi {u : Nat → Rat} {n i : Nat} (hi : i < 2 ^ n) : pr u (n + 1) (2 ^ n + i) = pr u n i * u n := by
  have h1 := pr_low (u := u) (m := n) (c := 1) (x := i) n (Nat.le_refl n)
  rw [Nat.mul_one] at h1
  rw [pr, h1, Nat.add_div_left _ (Nat.pow_pos (by omega)), Nat.div_eq_of_lt hi, if_neg (by omega)]
theorem total_one {u : Nat → Rat} : ∀ n, sumTo (pr u n) (2 ^ n) = 1
  | 0 => by rw [show 2 ^ 0 = 1 from rfl, sumTo, sumTo, pr, Rat.zero_add]
  | n + 1 => by
    rw [Nat.pow_succ, Nat.mul_two, sumTo_add]
    have e1 : sumTo (pr u (n + 1)) (2 ^ n) = sumTo (fun i => pr u n i * (1 - u n)) (2 ^ n) := sumTo_congr _ fun i hi => pr_lo hi
    have e2 : sumTo (fun i => pr u (n + 1) (2 ^ n + i)) (2 ^ n) = sumTo (fun i => pr u n i * u n) (2 ^ n) := sumTo_congr _ fun i hi => pr_hi hi
    rw [e1, e2, sumTo_mul, sumTo_mul, total_one n, Rat.one_mul, Rat.one_mul]
    grind
/-- The share of the states in which component k has failed. -/
def mg (u : Nat → Rat) (n k x : Nat) : Rat := if x / 2 ^ k % 2 = 1 then pr u n x else 0
theorem marg_eq {u : Nat → Rat} {k : Nat} : ∀ n, k < n → sumTo (mg u n k) (2 ^ n) = u k
  | 0, h => absurd h (by omega)
  | n + 1, h => by
    rw [Nat.pow_succ, Nat.mul_two, sumTo_add]
    have e1 : sumTo (mg u (n + 1) k) (2 ^ n) = sumTo (fun i => mg u n k i * (1 - u n)) (2 ^ n) := sumTo_congr _ fun i hi => by
      unfold mg
      rw [pr_lo hi]
      split
      · rfl
      · rw [Rat.zero_mul]
    rw [e1, sumTo_mul]
    rcases Nat.lt_or_ge k n with h1 | h1
    · have e2 : sumTo (fun i => mg u (n + 1) k (2 ^ n + i)) (2 ^ n) = sumTo (fun i => mg u n k i * u n) (2 ^ n) := sumTo_congr _ fun i hi => by
        have h3 : (2 ^ n + i) / 2 ^ k % 2 = i / 2 ^ k % 2 := by
          have h4 : 2 ^ n = 2 ^ k * (2 * 2 ^ (n - k - 1)) := by
            rw [← Nat.pow_succ', ← Nat.pow_add]; congr 1; omega
          rw [h4, Nat.mul_add_div (Nat.pow_pos (by omega)), Nat.mul_add_mod]
        unfold mg
        rw [h3, pr_hi hi]
        split
        · rfl
        · rw [Rat.zero_mul]
      rw [e2, sumTo_mul, marg_eq n h1]
      grind
    · obtain rfl : k = n := by omega
      have e0 : sumTo (mg u k k) (2 ^ k) = 0 := sumTo_zero _ fun i hi => by
        unfold mg
        rw [Nat.div_eq_of_lt hi, if_neg (by omega)]
      have e2 : sumTo (fun i => mg u (k + 1) k (2 ^ k + i)) (2 ^ k) = sumTo (fun i => pr u k i * u k) (2 ^ k) := sumTo_congr _ fun i hi => by
        unfold mg
        rw [pr_hi hi, Nat.add_div_left _ (Nat.pow_pos (by omega)), Nat.div_eq_of_lt hi, if_pos (by omega)]
      rw [e0, e2, sumTo_mul, total_one, Rat.zero_mul, Rat.zero_add, Rat.one_mul]
end Go.Gg
namespace Go.Gg

/-- The number of components of a distribution, and the error's number. -/
def compM (dist : List GRat) : Nat × Int :=
  if ∃ n < 9, 1 ≤ n ∧ dist.length = 2 ^ n then (if ∃ i < dist.length, okR (at' dist (i : Int)) = false then (0, 3) else (dist.length.log2, 0)) else (0, 11)
theorem compM_yes {dist : List GRat} {n : Nat} (h1 : 1 ≤ n) (h8 : n ≤ 8) (hl : dist.length = 2 ^ n) : compM dist = if ∃ i < dist.length, okR (at' dist (i : Int)) = false then (0, 3) else (n, 0) := by
  unfold compM
  rw [if_pos ⟨n, by omega, h1, hl⟩, hl, Nat.log2_two_pow]
theorem compM_no {dist : List GRat} (h : ∀ n, 1 ≤ n → n ≤ 8 → dist.length ≠ 2 ^ n) : compM dist = (0, 11) := by
  unfold compM
  rw [if_neg]
  rintro ⟨n, h8, h1, hl⟩
  exact h n h1 (by omega) hl
theorem pow_range {n : Nat} (h : n ≤ 8) : (1 * 2 ^ (Int.toNat (n : Int)) : Int) = ((2 ^ n : Nat) : Int) ∧ rng (1 * 2 ^ (Int.toNat (n : Int))) := by
  have hp := pow_le_256 h
  have e : (1 * 2 ^ (Int.toNat (n : Int)) : Int) = ((2 ^ n : Nat) : Int) := by rw [Int.toNat_natCast, Int.one_mul]; simp
  refine ⟨e, ?_⟩
  rw [e]
  generalize 2 ^ n = N at hp
  unfold rng; omega
/-- All are valid. -/
theorem valid_loop {dist : List GRat} {W : GRat → (Bool → Prop) → Prop} (hW : ∀ a Q, Fr a → Q (okR a) → W a Q) (hd : dist.length ≤ 256) (hf : ∀ i : Nat, i < dist.length → Fr (at' dist (i : Int))) {A B : Prop}
    (h1 : (∃ i < dist.length, okR (at' dist (i : Int)) = false) → A) (h2 : (¬ ∃ i < dist.length, okR (at' dist (i : Int)) = false) → B) :
    loopW (σ := Int) 0 fun x next1 =>
        condW (decide (x < (dist.length : Int)))
          (((0 : Int) ≤ x ∧ x < (dist.length : Int)) ∧
          W (at' dist x) fun r =>
          condW (!r) A
            (rng (x + 1) ∧
            next1 (x + 1)))
          B := by
  refine ⟨fun x => ∃ i : Nat, x = i ∧ i ≤ dist.length ∧ ∀ j : Nat, j < i → okR (at' dist (j : Int)) = true, fun x => dist.length - x.toNat, ⟨0, rfl, by omega, fun j hj => absurd hj (by omega)⟩, ?_⟩
  rintro _ ⟨i, rfl, hi, hI⟩
  refine condT (fun hi2 => ⟨⟨by omega, hi2⟩, hW _ _ (hf i (by omega)) (condB (fun hb => h1 ⟨i, by omega, by simpa using hb⟩) (fun hb => ⟨by unfold rng; omega, ⟨i + 1, by omega, by omega, fun j hj => ?_⟩, by dsimp only; omega⟩))⟩) (fun hi2 => h2 ?_)
  · rcases Nat.lt_or_ge j i with h3 | h3
    · exact hI j h3
    · obtain rfl : j = i := by omega
      simpa using hb
  · rintro ⟨j, hj, hb⟩
    rw [hI j (by omega)] at hb
    cases hb
theorem product_components_s {dist : List GRat} {Q : Int → Option Int → Prop} (hl : dist.length ≤ 9223372036854775807) (hf : ∀ i : Nat, i < dist.length → Fr (at' dist (i : Int))) (h : Q (compM dist).1 (errO (compM dist).2)) : product_components_W dist Q := by
  refine ⟨fun x => ∃ n : Nat, x = n ∧ 1 ≤ n ∧ n ≤ 9 ∧ (n ≤ 8 → dist.length = 2 ^ n) ∧ (n = 9 → ∀ m, 1 ≤ m → m ≤ 8 → dist.length ≠ 2 ^ m), ?_, ?_⟩
  · refine ⟨fun x => ∃ n : Nat, x = n ∧ 1 ≤ n ∧ n ≤ 9 ∧ ∀ m, 1 ≤ m → m < n → dist.length ≠ 2 ^ m, fun x => 9 - x.toNat, ⟨1, rfl, by omega, by omega, fun m h1 h2 => by omega⟩, ?_⟩
    rintro _ ⟨n, rfl, h1, h9, hI⟩
    refine condT (fun hc => ?_) (fun hc => ⟨n, rfl, h1, h9, fun hh => by omega, fun _ m hm1 hm8 => hI m hm1 (by omega)⟩)
    obtain ⟨e, hr⟩ := pow_range (n := n) (by omega)
    refine ⟨⟨⟨by omega, by omega⟩, hr⟩, ?_⟩
    rw [e]
    refine condN (fun hne => ⟨by unfold rng; omega, ⟨n + 1, by omega, by omega, by omega, fun m hm1 hm2 => ?_⟩, by dsimp only; omega⟩) (fun he => ⟨n, rfl, h1, by omega, fun _ => ?_, fun hh => by omega⟩)
    · rcases Nat.lt_or_ge m n with h3 | h3
      · exact hI m hm1 h3
      · obtain rfl : m = n := by omega
        intro hh
        rw [hh] at hne
        exact hne rfl
    · generalize 2 ^ n = N at he ⊢
      omega
  · rintro _ ⟨n, rfl, h1, h9, hy, hn⟩
    refine condT (fun hc => ?_) (fun hc => ?_)
    · rw [compM_no (hn (by omega))] at h; exact h
    · have hlen := hy (by omega)
      rw [compM_yes h1 (by omega) hlen] at h
      have hp := pow_le_256 (n := n) (by omega)
      refine valid_loop (W := rational_Valid_W) (fun a Q fa hq => rational_Valid_s fa hq) (by omega) hf (fun hb => ?_) (fun hb => ?_)
      · rw [if_pos hb] at h; exact h
      · rw [if_neg hb] at h; exact h
theorem ref50_Size_s {dist : List GRat} {Q : Int → Int → Prop} (hl : dist.length ≤ 9223372036854775807) (hf : ∀ i : Nat, i < dist.length → Fr (at' dist (i : Int))) (h : Q (compM dist).1 (compM dist).2) : ref50_Size_W dist Q := by
  refine ⟨fun x => ∃ n : Nat, x = n ∧ 1 ≤ n ∧ n ≤ 9 ∧ ∀ m, 1 ≤ m → m < n → dist.length ≠ 2 ^ m, fun x => 9 - x.toNat, ⟨1, rfl, by omega, by omega, fun m h1 h2 => by omega⟩, ?_⟩
  rintro _ ⟨n, rfl, h1, h9, hI⟩
  refine condT (fun hc => ?_) (fun hc => ?_)
  · obtain ⟨e, hr⟩ := pow_range (n := n) (by omega)
    refine ⟨⟨⟨by omega, by omega⟩, hr⟩, ?_⟩
    rw [e]
    refine condN (fun hne => ⟨by unfold rng; omega, ⟨n + 1, by omega, by omega, by omega, fun m hm1 hm2 => ?_⟩, by dsimp only; omega⟩) (fun he => ?_)
    · rcases Nat.lt_or_ge m n with h3 | h3
      · exact hI m hm1 h3
      · obtain rfl : m = n := by omega
        intro hh
        rw [hh] at hne
        exact hne rfl
    · have hlen : dist.length = 2 ^ n := by
        generalize 2 ^ n = N at he ⊢
        omega
      rw [compM_yes h1 (by omega) hlen] at h
      have hp := pow_le_256 (n := n) (by omega)
      refine valid_loop (W := ref02_Valid_W) (fun a Q fa hq => ref02_Valid_s fa hq) (by omega) hf (fun hb => ?_) (fun hb => ?_)
      · rw [if_pos hb] at h; exact h
      · rw [if_neg hb] at h; exact h
  · rw [compM_no (fun m hm1 hm8 => hI m hm1 (by omega))] at h; exact h
end Go.Gg
namespace Go.Gg

def mgD (dist : List GRat) (k x : Nat) : Rat := if x / 2 ^ k % 2 = 1 then valR (at' dist (x : Int)) else 0
/-- The marginal, and the error's number. -/
def margM (dist : List GRat) (i : Int) : GRat × Int :=
  if (compM dist).2 ≠ 0 then (ratOf 0, (compM dist).2) else if i < 0 ∨ ((compM dist).1 : Int) ≤ i then (ratOf 0, 10) else (ratOf (sumTo (mgD dist i.toNat) dist.length), 0)
theorem compM_ok {dist : List GRat} (h : (compM dist).2 = 0) : dist.length = 2 ^ (compM dist).1 ∧ (compM dist).1 ≤ 8 ∧ dist.length ≤ 256 := by
  unfold compM at h ⊢
  split at h
  · rename_i hn
    obtain ⟨n, h8, h1, hl⟩ := hn
    have hp := pow_le_256 (n := n) (by omega)
    rw [if_pos ⟨n, h8, h1, hl⟩]
    split at h
    · cases h
    · rename_i hv
      rw [if_neg hv, hl, Nat.log2_two_pow]
      exact ⟨rfl, by omega, hp⟩
  · cases h
theorem mgD_RB {dist : List GRat} {k B : Nat} (hB : 1 ≤ B) (hf : Frs B dist) {x : Nat} (hx : x < dist.length) : RB B (mgD dist k x) := by
  unfold mgD
  split
  · exact (hf x hx).2
  · exact RB_zero _ hB
theorem bit_eq {x k : Nat} (hx : x < 256) : (bits .and .i64 ((x : Int) / 2 ^ (Int.toNat (k : Int))) 1) = ((x / 2 ^ k % 2 : Nat) : Int) := by
  have e : ((x : Int) / 2 ^ (Int.toNat (k : Int))) = ((x / 2 ^ k : Nat) : Int) := by rw [Int.toNat_natCast]; simp
  have := Nat.div_le_self x (2 ^ k)
  rw [e]
  generalize x / 2 ^ k = z at this
  rw [and_one64 (by omega) (by omega)]
  omega
theorem marg_loop {dist : List GRat} {k B : Nat} {A : GRat → GRat → (GRat → Prop) → Prop} (hA : ∀ a b K L Q, Fr a → Fr b → RB K (valR a) → RB L (valR b) → K + L + 1 ≤ 35184372088000 → Q (ratOf (valR a + valR b)) → A a b Q)
    (hB1 : 1 ≤ B) (hB : B ≤ 1000000000) (hf : Frs B dist) (hd : dist.length ≤ 256) (hk : k ≤ 64) {E : GRat → Prop} (h : E (ratOf (sumTo (mgD dist k) dist.length))) :
    loopW (σ := Int × GRat) (0, (⟨false, [], []⟩ : GRat)) fun ⟨x1, x2⟩ next1 =>
          condW (decide (x1 < (dist.length : Int)))
            (((0 : Int) ≤ x1 ∧ x1 < (dist.length : Int)) ∧
            ((0 : Int) ≤ (k : Int) ∧ (k : Int) ≤ 64) ∧
            condW ((bits .and .i64 (x1 / 2 ^ (Int.toNat (k : Int))) 1) == 1)
              (A x2 (at' dist x1) fun r2 =>
              rng (x1 + 1) ∧
              next1 ((x1 + 1), r2))
              (rng (x1 + 1) ∧
              next1 ((x1 + 1), x2)))
            (E x2) := by
  refine ⟨fun y => ∃ j : Nat, j ≤ dist.length ∧ y = ((j : Int), ratOf (sumTo (mgD dist k) j)), fun y => dist.length - y.1.toNat, ⟨0, by omega, rfl⟩, ?_⟩
  rintro _ ⟨j, hj, rfl⟩
  refine condT (fun hc => ⟨⟨by omega, hc⟩, ⟨by omega, by omega⟩, ?_⟩) (fun hc => ?_)
  · have hj2 : j < dist.length := by omega
    rw [bit_eq (by omega)]
    have hrb := sumTo_RB (B := B) j (fun i hi => mgD_RB (k := k) hB1 hf (x := i) (by omega))
    have hle : j * (B + 1) + 1 ≤ 256 * (B + 1) + 1 := by
      have := Nat.mul_le_mul_right (B + 1) (show j ≤ 256 by omega)
      omega
    have hrb := hrb.mono hle
    refine condE (fun hb => ?_) (fun hb => ⟨by unfold rng; omega, ⟨j + 1, hj2, ?_⟩, by dsimp only; omega⟩)
    · refine hA _ _ _ _ _ (Fr_ratOf hrb (by omega)) (hf j hj2).1 (by rw [valR_ratOf]; exact hrb) (hf j hj2).2 (by omega) ?_
      rw [valR_ratOf]
      refine ⟨by unfold rng; omega, ⟨j + 1, hj2, ?_⟩, by dsimp only; omega⟩
      rw [sumTo, show mgD dist k j = valR (at' dist (j : Int)) from if_pos (Int.ofNat.inj hb)]
      rfl
    · rw [sumTo, show mgD dist k j = 0 from if_neg (fun e => hb (by rw [e]; rfl)), Rat.add_zero]
      rfl
  · obtain rfl : j = dist.length := by omega
    exact h
theorem product_Marginal_s {dist : List GRat} {i : Int} {B : Nat} {Q : GRat → Option Int → Prop} (hl : dist.length ≤ 9223372036854775807) (hB1 : 1 ≤ B) (hB : B ≤ 1000000000) (hf : Frs B dist) (h : Q (margM dist i).1 (errO (margM dist i).2)) : product_Marginal_W dist i Q := by
  refine product_components_s hl (fun j hj => (hf j hj).1) ?_
  unfold margM at h
  by_cases he : (compM dist).2 = 0
  · rw [if_neg (fun hh => hh he)] at h
    rw [he]
    obtain ⟨hlen, h8, h256⟩ := compM_ok he
    refine ⟨fun hh => (by cases hh), fun _ => ?_⟩
    refine ⟨fun x => x = decide (i < 0 ∨ ((compM dist).1 : Int) ≤ i), ?_, ?_⟩
    · refine condT (fun hc => ?_) (fun hc => ?_)
      · rw [decide_eq_true (Or.inl hc)]
      · exact decide_eq_decide.2 ⟨fun hh => Or.inr hh, fun hh => hh.resolve_left hc⟩
    · rintro _ rfl
      refine condT (fun hc => ?_) (fun hc => ?_)
      · rw [if_pos hc] at h; exact h
      · rw [if_neg hc] at h
        obtain ⟨k, rfl⟩ := Int.eq_ofNat_of_zero_le (show 0 ≤ i by omega)
        exact marg_loop (A := rational_Add_W) (E := fun x => Q x none) (fun a b K L Q fa fb ka kb hk hq => rational_Add_s fa fb ka kb hk hq) hB1 hB hf h256 (by omega) h
  · rw [if_pos he] at h
    rw [show errO (compM dist).2 = some (compM dist).2 from if_neg he] at h ⊢
    exact ⟨fun _ => h, fun hh => (by cases hh)⟩
theorem ref50_Marginal_s {dist : List GRat} {i : Int} {B : Nat} {Q : GRat → Int → Prop} (hl : dist.length ≤ 9223372036854775807) (hB1 : 1 ≤ B) (hB : B ≤ 1000000000) (hf : Frs B dist) (h : Q (margM dist i).1 (margM dist i).2) : ref50_Marginal_W dist i Q := by
  refine ref50_Size_s hl (fun j hj => (hf j hj).1) ?_
  unfold margM at h
  by_cases he : (compM dist).2 = 0
  · rw [if_neg (fun hh => hh he)] at h
    rw [he]
    obtain ⟨hlen, h8, h256⟩ := compM_ok he
    refine ⟨fun hh => (by cases hh), fun _ => ?_⟩
    refine ⟨fun x => x = decide (i < 0 ∨ ((compM dist).1 : Int) ≤ i), ?_, ?_⟩
    · refine condT (fun hc => ?_) (fun hc => ?_)
      · rw [decide_eq_true (Or.inl hc)]
      · exact decide_eq_decide.2 ⟨fun hh => Or.inr hh, fun hh => hh.resolve_left hc⟩
    · rintro _ rfl
      refine condT (fun hc => ?_) (fun hc => ?_)
      · rw [if_pos hc] at h; exact h
      · rw [if_neg hc] at h
        obtain ⟨k, rfl⟩ := Int.eq_ofNat_of_zero_le (show 0 ≤ i by omega)
        exact marg_loop (A := ref02_Add_W) (E := fun x => Q x 0) (fun a b K L Q fa fb ka kb hk hq => ref02_Add_s fa fb ka kb hk hq) hB1 hB hf h256 (by omega) h
  · rw [if_pos he] at h
    exact ⟨fun _ => h, fun hh => absurd (by simpa using hh) he⟩
end Go.Gg
namespace Go.Gg

theorem Lst_at {u : Nat → Rat} {n i : Nat} (h : i < 2 ^ n) : at' (Lst u n) (i : Int) = ratOf (pr u n i) := at_map h
theorem compM_Lst {u : Nat → Rat} {n : Nat} (h1 : 1 ≤ n) (h8 : n ≤ 8) : compM (Lst u n) = (n, 0) := by
  rw [compM_yes h1 h8 Lst_len, if_neg]
  rintro ⟨i, hi, hb⟩
  rw [Lst_len] at hi
  rw [Lst_at hi, okR_ratOf] at hb
  cases hb
theorem margM_Lst {u : Nat → Rat} {n k : Nat} (h8 : n ≤ 8) (hk : k < n) : margM (Lst u n) (k : Int) = (ratOf (u k), 0) := by
  unfold margM
  rw [compM_Lst (by omega) h8, if_neg (fun hh => hh rfl), if_neg (by rw [not_or]; exact ⟨by omega, by dsimp only; omega⟩), Lst_len, Int.toNat_natCast]
  have : sumTo (mgD (Lst u n) k) (2 ^ n) = sumTo (mg u n k) (2 ^ n) := sumTo_congr _ fun i hi => by
    unfold mgD mg
    rw [Lst_at hi, valR_ratOf]
  rw [this, marg_eq n hk]
end Go.Gg
