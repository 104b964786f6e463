/- Rates, unavailability. Conditions: the numbers fit the machine. -/
import Derived.Test.YtonbnfgknijpoaaMb
import Derived.Test.YtonbnfgknijpoaaWPproduct
import Derived.Test.YtonbnfgknijpoaaWR50
import Derived.Test.YtonbnfgknijpoaaWH50
import Derived.Test.YtonbnfgknijpoaaWS
namespace Go.Gg
def rateB (x : GRat) : Bool := okR x && decide (0 ≤ sgnR (valR x))
theorem rateB_nonneg {x : GRat} (h : rateB x = true) : 0 ≤ valR x := by
  simp only [rateB, Bool.and_eq_true, decide_eq_true_eq] at h
  have h2 := h.2
  unfold sgnR at h2
  refine Rat.num_nonneg.1 ?_
  split at h2
  · omega
  · split at h2
    · omega
    · omega
theorem product_rate_s {x : GRat} {Q : Bool → Prop} (fx : Fr x) (h : Q (rateB x)) : product_rate_W x Q := by
  unfold rateB at h
  refine rational_Valid_s fx (condB (fun hc => ?_) (fun hc => ?_))
  · rw [hc, Bool.true_and] at h
    exact rational_Sign_s fx h
  · rw [hc, Bool.false_and] at h; exact h
theorem ref50_rate_s {x : GRat} {Q : Bool → Prop} (fx : Fr x) (h : Q (rateB x)) : ref50_rate_W x Q := by
  unfold rateB at h
  refine ref02_Valid_s fx (condB (fun hc => ?_) (fun hc => ?_))
  · rw [hc, Bool.true_and] at h
    exact ref02_Sign_s fx h
  · rw [hc, Bool.false_and] at h; exact h
/-- The unavailability, or the error's number. -/
def unav (f r : GRat) : GRat × Int :=
  if rateB f = false ∨ rateB r = false then (ratOf 0, 3) else if valR f + valR r = 0 then (ratOf 0, 8) else (ratOf (valR f / (valR f + valR r)), 0)
theorem unav_RB {f r : GRat} {k : Nat} (hk : 1 ≤ k) (kf : RB k (valR f)) (kr : RB k (valR r)) : ∃ q, (unav f r).1 = ratOf q ∧ RB (3 * k + 1) q := by
  unfold unav
  split
  · exact ⟨0, rfl, RB_zero _ (by omega)⟩
  · split
    · exact ⟨0, rfl, RB_zero _ (by omega)⟩
    · exact ⟨_, rfl, (RB_div kf (RB_add kf kr)).mono (by omega)⟩
theorem product_Unavailable_s {f r : GRat} {k : Nat} {Q : GRat → Option Int → Prop} (ff : Fr f) (fr : Fr r) (kf : RB k (valR f)) (kr : RB k (valR r)) (hk : 3 * k + 2 ≤ 35184372088000)
    (h : Q (unav f r).1 (errO (unav f r).2)) : product_Unavailable_W f r Q := by
  unfold unav at h
  refine ⟨fun x => x = decide (rateB f = false ∨ rateB r = false), ?_, ?_⟩
  · refine product_rate_s ff (condB (fun hc => ?_) (fun hc => product_rate_s fr ?_))
    · simp only [Bool.not_eq_true'] at hc; simp [hc]
    · simp only [Bool.not_eq_false'] at hc; rw [hc]; cases rateB r <;> rfl
  · rintro _ rfl
    refine condT (fun hc => ?_) (fun hc => ?_)
    · rw [if_pos hc] at h; exact h
    · rw [if_neg hc] at h
      have ks := RB_add kf kr
      by_cases hz : valR f + valR r = 0
      · rw [if_pos hz] at h
        refine ⟨_, rational_Add_s ff fr kf kr (by omega) rfl, _, _, rational_Div_s ff (Fr_ratOf ks (by omega)) kf (by rw [valR_ratOf]; exact ks) (by omega) (fun _ => ⟨rfl, rfl⟩) (fun hh => absurd (by rw [valR_ratOf]; exact hz) hh), h⟩
      · rw [if_neg hz] at h
        refine ⟨_, rational_Add_s ff fr kf kr (by omega) rfl, _, _, rational_Div_s ff (Fr_ratOf ks (by omega)) kf (by rw [valR_ratOf]; exact ks) (by omega) (fun hh => absurd hh (by rw [valR_ratOf]; exact hz)) (fun _ => ⟨rfl, rfl⟩), ?_⟩
        rw [valR_ratOf]; exact h
theorem ref50_Unavailable_s {f r : GRat} {k : Nat} {Q : GRat → Int → Prop} (ff : Fr f) (fr : Fr r) (kf : RB k (valR f)) (kr : RB k (valR r)) (hk : 3 * k + 2 ≤ 35184372088000)
    (h : Q (unav f r).1 (unav f r).2) : ref50_Unavailable_W f r Q := by
  unfold unav at h
  refine ⟨fun x => x = decide (rateB f = false ∨ rateB r = false), ?_, ?_⟩
  · refine ref50_rate_s ff (condB (fun hc => ?_) (fun hc => ref50_rate_s fr ?_))
    · simp only [Bool.not_eq_true'] at hc; simp [hc]
    · simp only [Bool.not_eq_false'] at hc; rw [hc]; cases rateB r <;> rfl
  · rintro _ rfl
    refine condT (fun hc => ?_) (fun hc => ?_)
    · rw [if_pos hc] at h; exact h
    · rw [if_neg hc] at h
      have ks := RB_add kf kr
      by_cases hz : valR f + valR r = 0
      · rw [if_pos hz] at h
        refine ⟨_, ref02_Add_s ff fr kf kr (by omega) rfl, _, _, ref02_Div_s ff (Fr_ratOf ks (by omega)) kf (by rw [valR_ratOf]; exact ks) (by omega) (fun _ => ⟨rfl, rfl⟩) (fun hh => absurd (by rw [valR_ratOf]; exact hz) hh), h⟩
      · rw [if_neg hz] at h
        refine ⟨_, ref02_Add_s ff fr kf kr (by omega) rfl, _, _, ref02_Div_s ff (Fr_ratOf ks (by omega)) kf (by rw [valR_ratOf]; exact ks) (by omega) (fun hh => absurd hh (by rw [valR_ratOf]; exact hz)) (fun _ => ⟨rfl, rfl⟩), ?_⟩
        rw [valR_ratOf]; exact h
end Go.Gg
namespace Go.Gg

/-- Fractions of so many bits. -/
def Frs (k : Nat) (l : List GRat) : Prop := ∀ i : Nat, i < l.length → Fr (at' l (i : Int)) ∧ RB k (valR (at' l (i : Int)))
theorem at_map {α : Type} [Inhabited α] {f : Nat → α} {n i : Nat} (h : i < n) : at' ((List.range n).map f) (i : Int) = f i := by
  simp [at', List.getD_eq_getElem?_getD, h]
/-- The first error of two lists of rates. -/
def listsE (f r : List GRat) : Int :=
  if f.length ≠ r.length ∨ f.length = 0 then 11 else if 8 < f.length then 4
  else if ∃ i < f.length, rateB (at' f (i : Int)) = false ∨ rateB (at' r (i : Int)) = false then 3
  else if ∃ i < f.length, valR (at' f (i : Int)) + valR (at' r (i : Int)) = 0 then 8 else 0
theorem sgnR_zero {q : Rat} : sgnR q = 0 ↔ q = 0 := by
  unfold sgnR
  constructor
  · intro h
    split at h
    · rename_i h0; exact Rat.num_eq_zero.1 h0
    · split at h <;> omega
  · rintro rfl; rfl
theorem sum_zero {p q : Rat} (hp : 0 ≤ p) (hq : 0 ≤ q) : p + q = 0 ↔ p = 0 ∧ q = 0 := by
  constructor
  · intro h
    have h1 : p ≤ p + q := by
      have := Rat.add_le_add_left (c := p).2 hq
      rwa [Rat.add_zero] at this
    rw [h] at h1
    have hp0 : p = 0 := Rat.le_antisymm h1 hp
    rw [hp0, Rat.zero_add] at h
    exact ⟨hp0, h⟩
  · rintro ⟨rfl, rfl⟩; exact Rat.zero_add 0
theorem product_check_s {f r : List GRat} {k : Nat} {Q : Option Int → Prop} (hf : Frs k f) (hr : Frs k r) (h : Q (errO (listsE f r))) : product_check_W f r Q := by
  refine ⟨fun x => x = decide (f.length ≠ r.length ∨ f.length = 0), ?_, ?_⟩
  · refine condN (fun hc => ?_) (fun hc => ?_)
    · rw [decide_eq_true (Or.inl (by omega))]
    · by_cases h0 : f.length = 0
      · rw [decide_eq_true (Or.inr h0)]; simp; exact List.eq_nil_of_length_eq_zero h0
      · rw [decide_eq_false (by omega)]; simp; intro hh; exact h0 (by rw [hh]; rfl)
  · rintro _ rfl
    unfold listsE at h
    refine condT (fun hc => ?_) (fun hc => ?_)
    · rw [if_pos hc] at h; exact h
    rw [if_neg hc] at h
    refine condT (fun hc2 => ?_) (fun hc2 => ?_)
    · rw [if_pos (by omega)] at h; exact h
    rw [if_neg (by omega)] at h
    have hl : f.length = r.length := by omega
    refine ⟨fun x => ∃ i : Nat, x = i ∧ i ≤ f.length ∧ ∀ j : Nat, j < i → rateB (at' f (j : Int)) = true ∧ rateB (at' r (j : Int)) = true, fun x => f.length - x.toNat, ⟨0, rfl, by omega, fun j hj => absurd hj (by omega)⟩, ?_⟩
    rintro _ ⟨i, rfl, hi, hI⟩
    refine condT (fun hi2 => ?_) (fun hi2 => ?_)
    · have hi3 : i < f.length := by omega
      refine ⟨fun x => x = decide (rateB (at' f (i : Int)) = false ∨ rateB (at' r (i : Int)) = false), ⟨⟨by omega, hi2⟩, product_rate_s (hf i hi3).1 (condB (fun hb => ?_) (fun hb => ⟨⟨by omega, by omega⟩, product_rate_s (hr i (by omega)).1 ?_⟩))⟩, ?_⟩
      · simp only [Bool.not_eq_true'] at hb; simp [hb]
      · simp only [Bool.not_eq_false'] at hb; rw [hb]; cases rateB (at' r (i : Int)) <;> rfl
      · rintro _ rfl
        refine condT (fun hb => ?_) (fun hb => ⟨by unfold rng; omega, ⟨i + 1, by omega, by omega, fun j hj => ?_⟩, by dsimp only; omega⟩)
        · rw [if_pos ⟨i, hi3, hb⟩] at h; exact h
        · rcases Nat.lt_or_ge j i with h1 | h1
          · exact hI j h1
          · obtain rfl : j = i := by omega
            rw [not_or] at hb
            exact ⟨by simpa using hb.1, by simpa using hb.2⟩
    · have hall : ∀ j : Nat, j < f.length → rateB (at' f (j : Int)) = true ∧ rateB (at' r (j : Int)) = true := fun j hj => hI j (by omega)
      rw [if_neg (by
        rintro ⟨j, hj, hb⟩
        have := hall j hj
        rw [this.1, this.2] at hb
        rcases hb with hb | hb <;> cases hb)] at h
      refine ⟨fun x => ∃ i : Nat, x = i ∧ i ≤ f.length ∧ ∀ j : Nat, j < i → valR (at' f (j : Int)) + valR (at' r (j : Int)) ≠ 0, fun x => f.length - x.toNat, ⟨0, rfl, by omega, fun j hj => absurd hj (by omega)⟩, ?_⟩
      rintro _ ⟨i, rfl, hi, hI⟩
      refine condT (fun hi2 => ?_) (fun hi2 => ?_)
      · have hi3 : i < f.length := by omega
        have hz := sum_zero (rateB_nonneg (hall i hi3).1) (rateB_nonneg (hall i hi3).2)
        refine ⟨fun x => x = decide (valR (at' f (i : Int)) + valR (at' r (i : Int)) = 0), ⟨⟨by omega, hi2⟩, rational_Sign_s (hf i hi3).1 (condE (fun hb => ⟨⟨by omega, by omega⟩, rational_Sign_s (hr i (by omega)).1 ?_⟩) (fun hb => ?_))⟩, ?_⟩
        · rw [sgnR_zero] at hb
          by_cases hr0 : valR (at' r (i : Int)) = 0
          · rw [decide_eq_true (hz.2 ⟨hb, hr0⟩)]; simpa using sgnR_zero.2 hr0
          · rw [decide_eq_false (fun e => hr0 (hz.1 e).2)]; simpa using fun e => hr0 (sgnR_zero.1 e)
        · rw [decide_eq_false (fun e => hb (sgnR_zero.2 (hz.1 e).1))]
        · rintro _ rfl
          refine condT (fun hb => ?_) (fun hb => ⟨by unfold rng; omega, ⟨i + 1, by omega, by omega, fun j hj => ?_⟩, by dsimp only; omega⟩)
          · rw [if_pos ⟨i, hi3, hb⟩] at h; exact h
          · rcases Nat.lt_or_ge j i with h1 | h1
            · exact hI j h1
            · obtain rfl : j = i := by omega
              exact hb
      · rw [if_neg (by
          rintro ⟨j, hj, hb⟩
          exact hI j (by omega) hb)] at h
        exact h
theorem ref50_Lists_s {f r : List GRat} {k : Nat} {Q : Int → Prop} (hk : 3 * k + 2 ≤ 35184372088000) (hf : Frs k f) (hr : Frs k r) (h : Q (listsE f r)) : ref50_Lists_W f r Q := by
  unfold listsE at h
  refine condN (fun hc => ?_) (fun hc => condE (fun hc1 => ?_) (fun hc1 => condT (fun hc2 => ?_) (fun hc2 => ?_)))
  · rw [if_pos (by omega)] at h; exact h
  · rw [if_pos (by omega)] at h; exact h
  · rw [if_neg (by omega), if_pos (by omega)] at h; exact h
  rw [if_neg (by omega), if_neg (by omega)] at h
  have hl : f.length = r.length := by omega
  refine ⟨fun x => ∃ i : Nat, x = i ∧ i ≤ f.length ∧ ∀ j : Nat, j < i → rateB (at' f (j : Int)) = true ∧ rateB (at' r (j : Int)) = true, fun x => f.length - x.toNat, ⟨0, rfl, by omega, fun j hj => absurd hj (by omega)⟩, ?_⟩
  rintro _ ⟨i, rfl, hi, hI⟩
  refine condT (fun hi2 => ?_) (fun hi2 => ?_)
  · have hi3 : i < f.length := by omega
    refine ⟨⟨by omega, hi2⟩, ref50_rate_s (hf i hi3).1 (condB (fun hb => ?_) (fun hb => ⟨⟨by omega, by omega⟩, ref50_rate_s (hr i (by omega)).1 (condB (fun hb2 => ?_) (fun hb2 => ⟨by unfold rng; omega, ⟨i + 1, by omega, by omega, fun j hj => ?_⟩, by dsimp only; omega⟩))⟩))⟩
    · rw [if_pos ⟨i, hi3, Or.inl (by simpa using hb)⟩] at h; exact h
    · rw [if_pos ⟨i, hi3, Or.inr (by simpa using hb2)⟩] at h; exact h
    · rcases Nat.lt_or_ge j i with h1 | h1
      · exact hI j h1
      · obtain rfl : j = i := by omega
        exact ⟨by simpa using hb, by simpa using hb2⟩
  · have hall : ∀ j : Nat, j < f.length → rateB (at' f (j : Int)) = true ∧ rateB (at' r (j : Int)) = true := fun j hj => hI j (by omega)
    rw [if_neg (by
      rintro ⟨j, hj, hb⟩
      have := hall j hj
      rw [this.1, this.2] at hb
      rcases hb with hb | hb <;> cases hb)] at h
    refine ⟨fun x => ∃ i : Nat, x = i ∧ i ≤ f.length ∧ ∀ j : Nat, j < i → valR (at' f (j : Int)) + valR (at' r (j : Int)) ≠ 0, fun x => f.length - x.toNat, ⟨0, rfl, by omega, fun j hj => absurd hj (by omega)⟩, ?_⟩
    rintro _ ⟨i, rfl, hi, hI⟩
    refine condT (fun hi2 => ?_) (fun hi2 => ?_)
    · have hi3 : i < f.length := by omega
      refine ⟨⟨by omega, hi2⟩, ⟨by omega, by omega⟩, _, _, ref50_Unavailable_s (hf i hi3).1 (hr i (by omega)).1 (hf i hi3).2 (hr i (by omega)).2 hk ⟨rfl, rfl⟩, ?_⟩
      have hu : (unav (at' f (i : Int)) (at' r (i : Int))).2 = if valR (at' f (i : Int)) + valR (at' r (i : Int)) = 0 then 8 else 0 := by
        unfold unav
        rw [if_neg (by rw [(hall i hi3).1, (hall i hi3).2]; simp)]
        split <;> rfl
      rw [hu]
      by_cases hb : valR (at' f (i : Int)) + valR (at' r (i : Int)) = 0
      · rw [if_pos hb]
        rw [if_pos ⟨i, hi3, hb⟩] at h
        exact ⟨fun _ => h, fun hh => by cases hh⟩
      · rw [if_neg hb]
        refine ⟨fun hh => (by cases hh), fun _ => ⟨by unfold rng; omega, ⟨i + 1, by omega, by omega, fun j hj => ?_⟩, by dsimp only; omega⟩⟩
        rcases Nat.lt_or_ge j i with h1 | h1
        · exact hI j h1
        · obtain rfl : j = i := by omega
          exact hb
    · rw [if_neg (by
        rintro ⟨j, hj, hb⟩
        exact hI j (by omega) hb)] at h
      exact h
theorem lists_zero {f r : List GRat} (h : listsE f r = 0) : f.length = r.length ∧ 0 < f.length ∧ f.length ≤ 8 ∧ ∀ i : Nat, i < f.length → (rateB (at' f (i : Int)) = true ∧ rateB (at' r (i : Int)) = true) ∧ valR (at' f (i : Int)) + valR (at' r (i : Int)) ≠ 0 := by
  unfold listsE at h
  split at h
  · cases h
  split at h
  · cases h
  split at h
  · cases h
  split at h
  · cases h
  rename_i h1 h2 h3 h4
  refine ⟨by omega, by omega, by omega, fun i hi => ⟨⟨?_, ?_⟩, fun e => h4 ⟨i, hi, e⟩⟩⟩
  · cases hb : rateB (at' f (i : Int)) with
    | true => rfl
    | false => exact absurd ⟨i, hi, Or.inl hb⟩ h3
  · cases hb : rateB (at' r (i : Int)) with
    | true => rfl
    | false => exact absurd ⟨i, hi, Or.inr hb⟩ h3
end Go.Gg
namespace Go.Gg

/-- The probability that just these components of the first n have failed. -/
def pr (u : Nat → Rat) : Nat → Nat → Rat
  | 0, _ => 1
  | n + 1, x => pr u n x * (if x / 2 ^ n % 2 = 0 then 1 - u n else u n)
theorem pr_low {u : Nat → Rat} {m c x : Nat} : ∀ n, n ≤ m → pr u n (2 ^ m * c + x) = pr u n x
  | 0, _ => rfl
  | n + 1, h => by
    rw [pr, pr, pr_low n (by omega)]
    have e : (2 ^ m * c + x) / 2 ^ n % 2 = x / 2 ^ n % 2 := by
      have h1 : 2 ^ m = 2 ^ n * (2 * 2 ^ (m - n - 1)) := by
        rw [← Nat.pow_succ', ← Nat.pow_add]; congr 1; omega
      rw [h1, Nat.mul_assoc, Nat.mul_add_div (Nat.pow_pos (by omega)), Nat.mul_assoc, Nat.mul_add_mod]
    rw [e]
def Lst (u : Nat → Rat) (n : Nat) : List GRat := (List.range (2 ^ n)).map fun x => ratOf (pr u n x)
theorem Lst_len {u : Nat → Rat} {n : Nat} : (Lst u n).length = 2 ^ n := by simp [Lst]
theorem Lst_succ {u : Nat → Rat} {n : Nat} : (List.range (2 ^ n)).map (fun x => ratOf (pr u n x * (1 - u n))) ++ (List.range (2 ^ n)).map (fun x => ratOf (pr u n x * u n)) = Lst u (n + 1) := by
  unfold Lst
  rw [Nat.pow_succ, Nat.mul_two, List.range_add, List.map_append, List.map_map]
  congr 1
  · refine List.map_congr_left fun x hx => ?_
    rw [List.mem_range] at hx
    rw [pr, Nat.div_eq_of_lt hx, if_pos rfl]
  · refine List.map_congr_left fun x hx => ?_
    rw [List.mem_range] at hx
    have h1 := pr_low (u := u) (m := n) (c := 1) (x := x) n (Nat.le_refl n)
    rw [Nat.mul_one] at h1
    show _ = ratOf (pr u (n + 1) (2 ^ n + x))
    rw [pr, h1, Nat.add_div_left _ (Nat.pow_pos (by omega)), Nat.div_eq_of_lt hx, if_neg (by omega)]
def uval (f r : List GRat) (i : Nat) : Rat := valR (at' f (i : Int)) / (valR (at' f (i : Int)) + valR (at' r (i : Int)))
theorem unav_ok {f r : GRat} (h1 : rateB f = true) (h2 : rateB r = true) (h3 : valR f + valR r ≠ 0) : unav f r = (ratOf (valR f / (valR f + valR r)), 0) := by
  unfold unav
  rw [if_neg (by rw [h1, h2]; simp), if_neg h3]
theorem RB_one {k : Nat} (hk : 1 ≤ k) : RB k 1 := RB_int (n := 1) hk (by
  have : 2 ^ 1 ≤ 2 ^ k := Nat.pow_le_pow_right (by omega) hk
  show 1 < 2 ^ k
  omega)
theorem pr_RB {u : Nat → Rat} {c n : Nat} (_hc : 1 ≤ c) (h : ∀ i, i < n → RB c (u i) ∧ RB c (1 - u i)) (x : Nat) : RB (n * c + 1) (pr u n x) := by
  induction n with
  | zero => exact RB_one (by omega)
  | succ n ih =>
    rw [pr]
    refine (RB_mul (ih (fun i hi => h i (by omega))) (l := c) ?_).mono (by rw [Nat.add_mul]; omega)
    split
    · exact (h n (by omega)).2
    · exact (h n (by omega)).1
/-- The stationary distribution, or the error's number. -/
def statM (f r : List GRat) : List GRat × Int := if listsE f r = 0 then (Lst (uval f r) f.length, 0) else ([], listsE f r)
theorem uval_RB {f r : List GRat} {k : Nat} (_hk : 1 ≤ k) (hf : Frs k f) (hr : Frs k r) (hl : f.length = r.length) {i : Nat} (hi : i < f.length) : RB (3 * k + 3) (uval f r i) ∧ RB (3 * k + 3) (1 - uval f r i) := by
  have h1 : RB (3 * k + 1) (uval f r i) := (RB_div (hf i hi).2 (RB_add (hf i hi).2 (hr i (by omega)).2)).mono (by omega)
  exact ⟨h1.mono (by omega), (RB_sub (RB_one (k := 1) (by omega)) h1).mono (by omega)⟩
theorem pow_le_256 {n : Nat} (h : n ≤ 8) : 2 ^ n ≤ 256 := Nat.le_trans (Nat.pow_le_pow_right (by omega) h) (by decide)

set_option maxHeartbeats 1000000 in
theorem product_Stationary_s {f r : List GRat} {k : Nat} {Q : List GRat → Option Int → Prop} (hk1 : 1 ≤ k) (hk : k ≤ 1000000000) (hf : Frs k f) (hr : Frs k r) (h : Q (statM f r).1 (errO (statM f r).2)) : product_Stationary_W f r Q := by
  refine product_check_s hf hr ?_
  unfold statM at h
  by_cases he : listsE f r = 0
  · rw [if_pos he] at h
    rw [he]
    obtain ⟨hl, h0, h8, hall⟩ := lists_zero he
    have hu := fun i (hi : i < f.length) => uval_RB hk1 hf hr hl hi
    refine ⟨fun hh => (by cases hh), fun _ => rational_Of_s (by unfold rng; omega) ?_⟩
    refine ⟨fun y => ∃ i : Nat, i ≤ f.length ∧ y = (Lst (uval f r) i, (i : Int)), fun y => f.length - y.2.toNat, ⟨0, by omega, rfl⟩, ?_⟩
    rintro _ ⟨i, hi, rfl⟩
    refine condT (fun hi2 => ?_) (fun hi2 => ?_)
    · have hi3 : i < f.length := by omega
      refine ⟨⟨by omega, hi2⟩, ⟨by omega, by omega⟩, _, _, product_Unavailable_s (hf i hi3).1 (hr i (by omega)).1 (hf i hi3).2 (hr i (by omega)).2 (by omega) ⟨rfl, rfl⟩, ?_⟩
      rw [unav_ok (hall i hi3).1.1 (hall i hi3).1.2 (hall i hi3).2]
      refine ⟨fun hh => (by cases hh), fun _ => ?_⟩
      have hprb := fun x => pr_RB (u := uval f r) (c := 3 * k + 3) (n := i) (by omega) (fun j hj => hu j (by omega)) x
      have hub := hu i hi3
      have hB : i * (3 * k + 3) + 1 ≤ 8 * (3 * k + 3) + 1 := by
        have := Nat.mul_le_mul_right (3 * k + 3) (show i ≤ 8 by omega)
        omega
      have hp := pow_le_256 (show i ≤ 8 by omega)
      refine ⟨fun y => ∃ j : Nat, j ≤ 2 ^ i ∧ y = ((j : Int), (List.range j).map (fun x => ratOf (pr (uval f r) i x * uval f r i)), (List.range j).map (fun x => ratOf (pr (uval f r) i x * (1 - uval f r i)))), fun y => 2 ^ i - y.1.toNat, ⟨0, Nat.zero_le _, rfl⟩, ?_⟩
      rintro _ ⟨j, hj, rfl⟩
      refine condT (fun hj2 => ?_) (fun hj2 => ?_)
      · rw [Lst_len] at hj2
        have hj3 : j < 2 ^ i := by omega
        have hat : at' (Lst (uval f r) i) (j : Int) = ratOf (pr (uval f r) i j) := at_map hj3
        have hpj := (hprb j).mono hB
        refine ⟨⟨by omega, by rw [Lst_len]; omega⟩, ?_⟩
        rw [hat]
        refine rational_Mul_s (Fr_ratOf hpj (by omega)) (Fr_ratOf hub.1 (by omega)) (by rw [valR_ratOf]; exact hpj) (by rw [valR_ratOf]; exact hub.1) (by omega) ?_
        rw [valR_ratOf]
        refine ⟨by simp; omega, _, rational_Of_s (by unfold rng; omega) rfl, _, rational_Sub_s (k := 1) (Fr_ratOf (RB_one (k := 1) (by omega)) (by omega)) (Fr_ratOf hub.1 (by omega)) (by rw [valR_ratOf]; exact RB_one (by omega)) (by rw [valR_ratOf]; exact hub.1) (by omega) rfl, ?_⟩
        rw [valR_ratOf, valR_ratOf]
        refine ⟨_, rational_Mul_s (Fr_ratOf hpj (by omega)) (Fr_ratOf hub.2 (by omega)) (by rw [valR_ratOf]; exact hpj) (by rw [valR_ratOf]; exact hub.2) (by omega) rfl, by simp; omega, by unfold rng; omega, ⟨j + 1, hj3, ?_⟩, by dsimp only; omega⟩
        rw [List.range_succ, List.map_append, List.map_append, valR_ratOf]
        simp only [valR_ratOf]
        rfl
      · rw [Lst_len] at hj2
        obtain rfl : j = 2 ^ i := by omega
        refine ⟨by simp; omega, by unfold rng; omega, ⟨i + 1, hi3, ?_⟩, by dsimp only; omega⟩
        rw [Lst_succ]
        rfl
    · obtain rfl : i = f.length := by omega
      exact h
  · rw [if_neg he] at h
    have e : errO (listsE f r) = some (listsE f r) := if_neg he
    rw [e] at h ⊢
    exact ⟨fun _ => h, fun hh => (by cases hh)⟩

theorem and_one64 {y : Int} (h0 : 0 ≤ y) (h1 : y < 4294967296) : bits .and .i64 y 1 = y % 2 := by
  obtain ⟨m, rfl⟩ := Int.eq_ofNat_of_zero_le h0
  show IntKind.i64.wrap (((BitVec.ofInt 64 (m : Int)) &&& (BitVec.ofInt 64 1)).toNat : Int) = _
  rw [BitVec.toNat_and, BitVec.toNat_ofInt, BitVec.toNat_ofInt]
  have e1 : ((m : Int) % ((2 ^ 64 : Nat) : Int)).toNat = m := by omega
  have e2 : ((1 : Int) % ((2 ^ 64 : Nat) : Int)).toNat = 1 := by omega
  rw [e1, e2, Nat.and_one_is_mod]
  have e3 : m % 2 = 0 ∨ m % 2 = 1 := by omega
  have e4 : (m : Int) % 2 = ((m % 2 : Nat) : Int) := by omega
  rw [e4]
  rcases e3 with e | e <;> rw [e] <;> rfl
set_option maxHeartbeats 1000000 in
theorem ref50_Stationary_s {f r : List GRat} {k : Nat} {Q : List GRat → Int → Prop} (hk1 : 1 ≤ k) (hk : k ≤ 1000000000) (hf : Frs k f) (hr : Frs k r) (h : Q (statM f r).1 (statM f r).2) : ref50_Stationary_W f r Q := by
  refine ref50_Lists_s (by omega) hf hr ?_
  unfold statM at h
  by_cases he : listsE f r = 0
  · rw [if_pos he] at h
    rw [he]
    obtain ⟨hl, h0, h8, hall⟩ := lists_zero he
    have hu := fun i (hi : i < f.length) => uval_RB hk1 hf hr hl hi
    have hp := pow_le_256 h8
    have hpw : (1 * 2 ^ (Int.toNat (f.length : Int)) : Int) = ((2 ^ f.length : Nat) : Int) := by rw [Int.toNat_natCast, Int.one_mul]; simp
    have hq : rng ((2 ^ f.length : Nat) : Int) := by
      generalize 2 ^ f.length = N at hp
      unfold rng; omega
    refine ⟨fun hh => (by cases hh), fun _ => ⟨⟨⟨by omega, by omega⟩, by rw [hpw]; exact hq⟩, ?_⟩⟩
    rw [hpw]
    refine ⟨fun y => ∃ j : Nat, j ≤ 2 ^ f.length ∧ y = ((j : Int), (List.range j).map (fun x => ratOf (pr (uval f r) f.length x))), fun y => 2 ^ f.length - y.1.toNat, ⟨0, Nat.zero_le _, rfl⟩, ?_⟩
    rintro _ ⟨j, hj, rfl⟩
    refine condT (fun hj2 => ?_) (fun hj2 => ?_)
    · have hj3 : j < 2 ^ f.length := by omega
      refine ref02_Of_s (by unfold rng; omega) ?_
      refine ⟨fun y => ∃ i : Nat, i ≤ f.length ∧ y = ((i : Int), ratOf (pr (uval f r) i j)), fun y => f.length - y.1.toNat, ⟨0, by omega, rfl⟩, ?_⟩
      rintro _ ⟨i, hi, rfl⟩
      refine condT (fun hi2 => ?_) (fun hi2 => ?_)
      · have hi3 : i < f.length := by omega
        refine ⟨⟨by omega, hi2⟩, ⟨by omega, by omega⟩, _, _, ref50_Unavailable_s (hf i hi3).1 (hr i (by omega)).1 (hf i hi3).2 (hr i (by omega)).2 (by omega) ⟨rfl, rfl⟩, ?_⟩
        rw [unav_ok (hall i hi3).1.1 (hall i hi3).1.2 (hall i hi3).2]
        have hprb := pr_RB (u := uval f r) (c := 3 * k + 3) (n := i) (by omega) (fun j hj => hu j (by omega)) j
        have hub := hu i hi3
        have hB : i * (3 * k + 3) + 1 ≤ 8 * (3 * k + 3) + 1 := by
          have := Nat.mul_le_mul_right (3 * k + 3) (show i ≤ 8 by omega)
          omega
        have hpj := hprb.mono hB
        refine joinIn ⟨⟨by omega, by omega⟩, ?_⟩
        have hbit : (bits .and .i64 ((j : Int) / 2 ^ (Int.toNat (i : Int))) 1) = ((j / 2 ^ i % 2 : Nat) : Int) := by
          have e : ((j : Int) / 2 ^ (Int.toNat (i : Int))) = ((j / 2 ^ i : Nat) : Int) := by rw [Int.toNat_natCast]; simp
          have := Nat.div_le_self j (2 ^ i)
          rw [e]
          generalize j / 2 ^ i = z at this
          generalize 2 ^ f.length = N at hp hj3
          rw [and_one64 (by omega) (by omega)]
          omega
        rw [hbit]
        have hnext : ∀ v : Rat, RB (3 * k + 3) v → pr (uval f r) (i + 1) j = pr (uval f r) i j * v → ref02_Mul_W (ratOf (pr (uval f r) i j)) (ratOf v) fun r3 => rng ((i : Int) + 1) ∧ ((fun z : Int × GRat => (∃ i : Nat, i ≤ f.length ∧ z = ((i : Int), ratOf (pr (uval f r) i j))) ∧ f.length - z.1.toNat < f.length - (i : Int).toNat) ((i : Int) + 1, r3)) := by
          intro v hv hev
          refine ref02_Mul_s (Fr_ratOf hpj (by omega)) (Fr_ratOf hv (by omega)) (by rw [valR_ratOf]; exact hpj) (by rw [valR_ratOf]; exact hv) (by omega) ?_
          rw [valR_ratOf, valR_ratOf]
          refine ⟨by unfold rng; omega, ⟨i + 1, hi3, ?_⟩, by dsimp only; omega⟩
          rw [hev]; rfl
        refine condE (fun hb => ?_) (fun hb => ?_)
        · refine ⟨_, ref02_Of_s (by unfold rng; omega) rfl, _, ref02_Sub_s (k := 1) (Fr_ratOf (RB_one (k := 1) (by omega)) (by omega)) (Fr_ratOf hub.1 (by omega)) (by rw [valR_ratOf]; exact RB_one (by omega)) (by rw [valR_ratOf]; exact hub.1) (by omega) rfl, ?_⟩
          rw [valR_ratOf, valR_ratOf]
          exact hnext _ hub.2 (by rw [pr, if_pos (Int.ofNat.inj hb)]; rfl)
        · exact hnext _ hub.1 (by rw [pr, if_neg (fun e => hb (by rw [e]; rfl))]; rfl)
      · obtain rfl : i = f.length := by omega
        refine ⟨by simp; omega, by unfold rng; omega, ⟨j + 1, hj3, ?_⟩, by dsimp only; omega⟩
        rw [List.range_succ, List.map_append]
        rfl
    · obtain rfl : j = 2 ^ f.length := by omega
      exact h
  · rw [if_neg he] at h
    refine ⟨fun _ => h, fun hh => absurd (by simpa using hh) he⟩
end Go.Gg
namespace Go.Gg

theorem law50_part_s {n d : Int} {Q : GRat → Prop} (hn : rng n) (hd : rng d) (h0 : d ≠ 0) (h : Q (ratOf ((n : Rat) / (d : Rat)))) : law50_part_W n d Q :=
  ref02_Make_s hn hd (fun e => absurd e h0) fun _ => h
theorem Frs_two {a b : GRat} {k : Nat} (ha : Fr a ∧ RB k (valR a)) (hb : Fr b ∧ RB k (valR b)) : Frs k [a, b] := fun i hi => by
  match i with
  | 0 => exact ha
  | 1 => exact hb
  | i + 2 => exact absurd hi (by simp)
theorem Fr_small {n d : Int} (hn : n.natAbs < 8) (hd : d.natAbs < 8) : Fr (ratOf ((n : Rat) / (d : Rat))) ∧ RB 8 (valR (ratOf ((n : Rat) / (d : Rat)))) := by
  have h1 : ∀ m : Int, m.natAbs < 8 → RB 3 (m : Rat) := fun m hm => RB_int (by omega) hm
  have h := (RB_div (h1 n hn) (h1 d hd)).mono (show 3 + 3 ≤ 8 by omega)
  exact ⟨Fr_ratOf h (by omega), by rw [valR_ratOf]; exact h⟩
theorem stat_lens {f r : List GRat} {k : Nat} (hk1 : 1 ≤ k) (hk : k ≤ 1000000000) (hf : Frs k f) (hr : Frs k r) : (statM f r).1.length ≤ 1099511627776 ∧ ∀ i : Nat, i < (statM f r).1.length → Fr (at' (statM f r).1 (i : Int)) ∧ RB (8 * (3 * k + 3) + 1) (valR (at' (statM f r).1 (i : Int))) := by
  unfold statM
  by_cases he : listsE f r = 0
  · rw [if_pos he]
    obtain ⟨hl, h0, h8, hall⟩ := lists_zero he
    have hp := pow_le_256 h8
    refine ⟨by rw [Lst_len]; omega, fun i hi => ?_⟩
    rw [Lst_len] at hi
    have hat : at' (Lst (uval f r) f.length) (i : Int) = ratOf (pr (uval f r) f.length i) := at_map hi
    have hB : f.length * (3 * k + 3) + 1 ≤ 8 * (3 * k + 3) + 1 := by
      have := Nat.mul_le_mul_right (3 * k + 3) h8
      omega
    have hrb := (pr_RB (u := uval f r) (c := 3 * k + 3) (n := f.length) (by omega) (fun j hj => uval_RB hk1 hf hr hl hj) i).mono hB
    show Fr (at' (Lst (uval f r) f.length) (i : Int)) ∧ _
    rw [hat]
    exact ⟨Fr_ratOf hrb (by omega), by rw [valR_ratOf]; exact hrb⟩
  · rw [if_neg he]
    exact ⟨by simp, fun i hi => absurd hi (by simp)⟩
theorem awake_stat : statM [ratOf ((1 : Int) / (1 : Int)), ratOf ((1 : Int) / (1 : Int))] [ratOf ((3 : Int) / (1 : Int)), ratOf ((1 : Int) / (1 : Int))] = ([ratOf ((3 : Int) / (8 : Int)), ratOf ((1 : Int) / (8 : Int)), ratOf ((3 : Int) / (8 : Int)), ratOf ((1 : Int) / (8 : Int))], 0) := by
  have u0 : uval [ratOf ((1 : Int) / (1 : Int)), ratOf ((1 : Int) / (1 : Int))] [ratOf ((3 : Int) / (1 : Int)), ratOf ((1 : Int) / (1 : Int))] 0 = ((1 : Int) : Rat) / (4 : Int) := by
    show valR (ratOf _) / (valR (ratOf _) + valR (ratOf _)) = _
    rw [valR_ratOf, valR_ratOf]
    decide +kernel
  have u1 : uval [ratOf ((1 : Int) / (1 : Int)), ratOf ((1 : Int) / (1 : Int))] [ratOf ((3 : Int) / (1 : Int)), ratOf ((1 : Int) / (1 : Int))] 1 = ((1 : Int) : Rat) / (2 : Int) := by
    show valR (ratOf _) / (valR (ratOf _) + valR (ratOf _)) = _
    rw [valR_ratOf]
    decide +kernel
  have hrate : ∀ n : Int, 0 < n → n < 8 → rateB (ratOf ((n : Rat) / ((1 : Int) : Rat))) = true := by
    intro n h1 h2
    rw [rateB, okR_ratOf, valR_ratOf, Bool.true_and]
    have hn : n = 1 ∨ n = 2 ∨ n = 3 ∨ n = 4 ∨ n = 5 ∨ n = 6 ∨ n = 7 := by omega
    rcases hn with rfl | rfl | rfl | rfl | rfl | rfl | rfl <;> decide +kernel
  have hl : listsE [ratOf ((1 : Int) / (1 : Int)), ratOf ((1 : Int) / (1 : Int))] [ratOf ((3 : Int) / (1 : Int)), ratOf ((1 : Int) / (1 : Int))] = 0 := by
    unfold listsE
    rw [if_neg (by simp), if_neg (by simp), if_neg, if_neg]
    · rintro ⟨i, hi, h⟩
      match i with
      | 0 =>
        revert h
        show ¬ (valR (ratOf _) + valR (ratOf _) = 0)
        rw [valR_ratOf, valR_ratOf]
        decide +kernel
      | 1 =>
        revert h
        show ¬ (valR (ratOf _) + valR (ratOf _) = 0)
        rw [valR_ratOf]
        decide +kernel
      | i + 2 => exact absurd hi (by simp)
    · rintro ⟨i, hi, h⟩
      match i with
      | 0 =>
        have h : rateB (ratOf (((1 : Int) : Rat) / ((1 : Int) : Rat))) = false ∨ rateB (ratOf (((3 : Int) : Rat) / ((1 : Int) : Rat))) = false := h
        rw [hrate 1 (by omega) (by omega), hrate 3 (by omega) (by omega)] at h
        rcases h with h | h <;> cases h
      | 1 =>
        have h : rateB (ratOf (((1 : Int) : Rat) / ((1 : Int) : Rat))) = false ∨ rateB (ratOf (((1 : Int) : Rat) / ((1 : Int) : Rat))) = false := h
        rw [hrate 1 (by omega) (by omega)] at h
        rcases h with h | h <;> cases h
      | i + 2 => exact absurd hi (by simp)
  unfold statM
  rw [if_pos hl]
  have key : ∀ u : Nat → Rat, u 0 = ((1 : Int) : Rat) / (4 : Int) → u 1 = ((1 : Int) : Rat) / (2 : Int) → Lst u 2 = [ratOf ((3 : Int) / (8 : Int)), ratOf ((1 : Int) / (8 : Int)), ratOf ((3 : Int) / (8 : Int)), ratOf ((1 : Int) / (8 : Int))] := by
    intro u h0 h1
    show [ratOf (1 * (1 - u 0) * (1 - u 1)), ratOf (1 * u 0 * (1 - u 1)), ratOf (1 * (1 - u 0) * u 1), ratOf (1 * u 0 * u 1)] = _
    rw [h0, h1]
    have e1 : (1 : Rat) * (1 - ((1 : Int) : Rat) / ((4 : Int) : Rat)) * (1 - ((1 : Int) : Rat) / ((2 : Int) : Rat)) = ((3 : Int) : Rat) / ((8 : Int) : Rat) := by decide +kernel
    have e2 : (1 : Rat) * (((1 : Int) : Rat) / ((4 : Int) : Rat)) * (1 - ((1 : Int) : Rat) / ((2 : Int) : Rat)) = ((1 : Int) : Rat) / ((8 : Int) : Rat) := by decide +kernel
    have e3 : (1 : Rat) * (1 - ((1 : Int) : Rat) / ((4 : Int) : Rat)) * (((1 : Int) : Rat) / ((2 : Int) : Rat)) = ((3 : Int) : Rat) / ((8 : Int) : Rat) := by decide +kernel
    have e4 : (1 : Rat) * (((1 : Int) : Rat) / ((4 : Int) : Rat)) * (((1 : Int) : Rat) / ((2 : Int) : Rat)) = ((1 : Int) : Rat) / ((8 : Int) : Rat) := by decide +kernel
    rw [e1, e2, e3, e4]
  exact congrArg (fun l => (l, (0 : Int))) (key _ u0 u1)
theorem law50_awake_s {Q : Bool → Prop} (h : Q true) : law50_awake_W Q := by
  have r : ∀ n : Int, n.natAbs < 9 → rng n := fun n hn => by unfold rng; omega
  refine law50_part_s (r 1 (by decide)) (r 1 (by decide)) (by decide) (law50_part_s (r 1 (by decide)) (r 1 (by decide)) (by decide) (law50_part_s (r 3 (by decide)) (r 1 (by decide)) (by decide) (law50_part_s (r 1 (by decide)) (r 1 (by decide)) (by decide) ?_)))
  have hf := Frs_two (Fr_small (n := 1) (d := 1) (by decide) (by decide)) (Fr_small (n := 1) (d := 1) (by decide) (by decide))
  have hr := Frs_two (Fr_small (n := 3) (d := 1) (by decide) (by decide)) (Fr_small (n := 1) (d := 1) (by decide) (by decide))
  refine product_Stationary_s (k := 8) (by omega) (by omega) hf hr ?_
  have hl := stat_lens (k := 8) (by omega) (by omega) hf hr
  rw [awake_stat] at hl ⊢
  refine condB (fun _ => ?_) (fun hh => (by cases hh))
  refine law50_part_s (r 3 (by decide)) (r 8 (by decide)) (by decide) (law50_part_s (r 1 (by decide)) (r 8 (by decide)) (by decide) (law50_part_s (r 3 (by decide)) (r 8 (by decide)) (by decide) (law50_part_s (r 1 (by decide)) (r 8 (by decide)) (by decide) ?_)))
  exact base_Rats_same hl.1 (fun i hi => ⟨Nat.le_trans (hl.2 i hi).1.2.2.1 (by omega), Nat.le_trans (hl.2 i hi).1.2.2.2 (by omega)⟩) h
end Go.Gg
namespace Go.Gg

/-- Two words at the most. -/
def Two (a : GRat) : Prop := a.Num.length ≤ 2 ∧ a.Den.length ≤ 2
theorem Two_Fr {a : GRat} (hw : WrR a) (h : Two a) : Fr a ∧ RB 65 (valR a) := ⟨⟨hw.1, hw.2, Nat.le_trans h.1 (by omega), Nat.le_trans h.2 (by omega)⟩, RB_valR hw.1 hw.2 h.1 h.2⟩
theorem law49_Brief_s {x : GRat} {n : Int} {Q : Bool → Prop} (h : ∀ b, (b = true → Two x) → Q b) : law49_Brief_W x n Q := by
  refine condT (fun _ => condT (fun h1 => h _ fun h2 => ⟨by omega, by have := of_decide_eq_true h2; omega⟩) (fun _ => h _ fun hh => (by cases hh))) (fun _ => ?_)
  refine condT (fun h1 => condE (fun h2 => h _ fun _ => ⟨by omega, by omega⟩) (fun _ => condE (fun h2 => ⟨by omega, h _ fun _ => ⟨by omega, by omega⟩⟩) (fun _ => h _ fun hh => (by cases hh)))) (fun _ => h _ fun hh => (by cases hh))
theorem law50_short_s {l : List GRat} {m : Int} {Q : Bool → Prop} (la : l.length ≤ 9223372036854775807) (h : ∀ b, (b = true → (l.length : Int) ≤ m ∧ ∀ i : Nat, i < l.length → Two (at' l (i : Int))) → Q b) : law50_short_W l m Q := by
  refine ⟨fun x => ∃ i : Nat, x = i ∧ i ≤ l.length ∧ ∀ j : Nat, j < i → Two (at' l (j : Int)), fun x => l.length - x.toNat, ⟨0, rfl, by omega, fun j hj => absurd hj (by omega)⟩, ?_⟩
  rintro _ ⟨i, rfl, hi, hI⟩
  refine condT (fun hi2 => ⟨⟨by omega, hi2⟩, law49_Brief_s fun b hb => condB (fun h1 => h _ fun hh => (by cases hh)) (fun h1 => ⟨by unfold rng; omega, ⟨i + 1, by omega, by omega, fun j hj => ?_⟩, by dsimp only; omega⟩)⟩) (fun hi2 => h _ fun hd => ⟨of_decide_eq_true hd, fun j hj => hI j (by omega)⟩)
  rcases Nat.lt_or_ge j i with h2 | h2
  · exact hI j h2
  · obtain rfl : j = i := by omega
    exact hb (by simpa using h1)
end Go.Gg
