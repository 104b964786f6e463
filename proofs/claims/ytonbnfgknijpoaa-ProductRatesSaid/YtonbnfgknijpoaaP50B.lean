/- The stationary distribution of independent components. Conditions: the numbers fit the machine. -/
import Derived.Test.YtonbnfgknijpoaaP50A
namespace Go.Gg

/-- Fractions of so many bits. -/
def Frs (k : Nat) (l : List GRat) : Prop := ∀ i : Nat, i < l.length → Fr (at' l (i : Int)) ∧ RB k (valR (at' l (i : Int)))
theorem at_map {α : Type} [Inhabited α] {f : Nat → α} {n i : Nat} (h : i < n) : at' ((List.range n).map f) (i : Int) = f i := by
  simp [at', List.getD_eq_getElem?_getD, h]
/-- The first error of two lists of rates. -/
def listsE (f r : List GRat) : Int :=
  if f.length ≠ r.length ∨ f.length = 0 then 11 else if 8 < f.length then 4
  else if ∃ i < f.length, rateB (at' f (i : Int)) = false ∨ rateB (at' r (i : Int)) = false then 3
  else if ∃ i < f.length, valR (at' f (i : Int)) + valR (at' r (i : Int)) = 0 then 8 else 0
theorem sgnR_zero {q : Rat} : sgnR q = 0 ↔ q = 0 := by
  unfold sgnR
  constructor
  · intro h
    split at h
    · rename_i h0; exact Rat.num_eq_zero.1 h0
    · split at h <;> omega
  · rintro rfl; rfl
theorem sum_zero {p q : Rat} (hp : 0 ≤ p) (hq : 0 ≤ q) : p + q = 0 ↔ p = 0 ∧ q = 0 := by
  constructor
  · intro h
    have h1 : p ≤ p + q := by
      have := Rat.add_le_add_left (c := p).2 hq
      rwa [Rat.add_zero] at this
    rw [h] at h1
    have hp0 : p = 0 := Rat.le_antisymm h1 hp
    rw [hp0, Rat.zero_add] at h
    exact ⟨hp0, h⟩
  · rintro ⟨rfl, rfl⟩; exact Rat.zero_add 0
theorem product_check_s {f r : List GRat} {k : Nat} {Q : Option Int → Prop} (hf : Frs k f) (hr : Frs k r) (h : Q (errO (listsE f r))) : product_check_W f r Q := by
  refine ⟨fun x => x = decide (f.length ≠ r.length ∨ f.length = 0), ?_, ?_⟩
  · refine condN (fun hc => ?_) (fun hc => ?_)
    · rw [decide_eq_true (Or.inl (by omega))]
    · by_cases h0 : f.length = 0
      · rw [decide_eq_true (Or.inr h0)]; simp; exact List.eq_nil_of_length_eq_zero h0
      · rw [decide_eq_false (by omega)]; simp; intro hh; exact h0 (by rw [hh]; rfl)
  · rintro _ rfl
    unfold listsE at h
    refine condT (fun hc => ?_) (fun hc => ?_)
    · rw [if_pos hc] at h; exact h
    rw [if_neg hc] at h
    refine condT (fun hc2 => ?_) (fun hc2 => ?_)
    · rw [if_pos (by omega)] at h; exact h
    rw [if_neg (by omega)] at h
    have hl : f.length = r.length := by omega
    refine ⟨fun x => ∃ i : Nat, x = i ∧ i ≤ f.length ∧ ∀ j : Nat, j < i → rateB (at' f (j : Int)) = true ∧ rateB (at' r (j : Int)) = true, fun x => f.length - x.toNat, ⟨0, rfl, by omega, fun j hj => absurd hj (by omega)⟩, ?_⟩
    rintro _ ⟨i, rfl, hi, hI⟩
    refine condT (fun hi2 => ?_) (fun hi2 => ?_)
    · have hi3 : i < f.length := by omega
      refine ⟨fun x => x = decide (rateB (at' f (i : Int)) = false ∨ rateB (at' r (i : Int)) = false), ⟨⟨by omega, hi2⟩, product_rate_s (hf i hi3).1 (condB (fun hb => ?_) (fun hb => ⟨⟨by omega, by omega⟩, product_rate_s (hr i (by omega)).1 ?_⟩))⟩, ?_⟩
      · simp only [Bool.not_eq_true'] at hb; simp [hb]
      · simp only [Bool.not_eq_false'] at hb; rw [hb]; cases rateB (at' r (i : Int)) <;> rfl
      · rintro _ rfl
        refine condT (fun hb => ?_) (fun hb => ⟨by unfold rng; omega, ⟨i + 1, by omega, by omega, fun j hj => ?_⟩, by dsimp only; omega⟩)
        · rw [if_pos ⟨i, hi3, hb⟩] at h; exact h
        · rcases Nat.lt_or_ge j i with h1 | h1
          · exact hI j h1
          · obtain rfl : j = i := by omega
            rw [not_or] at hb
            exact ⟨by simpa using hb.1, by simpa using hb.2⟩
    · have hall : ∀ j : Nat, j < f.length → rateB (at' f (j : Int)) = true ∧ rateB (at' r (j : Int)) = true := fun j hj => hI j (by omega)
      rw [if_neg (by
        rintro ⟨j, hj, hb⟩
        have := hall j hj
        rw [this.1, this.2] at hb
        rcases hb with hb | hb <;> cases hb)] at h
      refine ⟨fun x => ∃ i : Nat, x = i ∧ i ≤ f.length ∧ ∀ j : Nat, j < i → valR (at' f (j : Int)) + valR (at' r (j : Int)) ≠ 0, fun x => f.length - x.toNat, ⟨0, rfl, by omega, fun j hj => absurd hj (by omega)⟩, ?_⟩
      rintro _ ⟨i, rfl, hi, hI⟩
      refine condT (fun hi2 => ?_) (fun hi2 => ?_)
      · have hi3 : i < f.length := by omega
        have hz := sum_zero (rateB_nonneg (hall i hi3).1) (rateB_nonneg (hall i hi3).2)
        refine ⟨fun x => x = decide (valR (at' f (i : Int)) + valR (at' r (i : Int)) = 0), ⟨⟨by omega, hi2⟩, rational_Sign_s (hf i hi3).1 (condE (fun hb => ⟨⟨by omega, by omega⟩, rational_Sign_s (hr i (by omega)).1 ?_⟩) (fun hb => ?_))⟩, ?_⟩
        · rw [sgnR_zero] at hb
          by_cases hr0 : valR (at' r (i : Int)) = 0
          · rw [decide_eq_true (hz.2 ⟨hb, hr0⟩)]; simpa using sgnR_zero.2 hr0
          · rw [decide_eq_false (fun e => hr0 (hz.1 e).2)]; simpa using fun e => hr0 (sgnR_zero.1 e)
        · rw [decide_eq_false (fun e => hb (sgnR_zero.2 (hz.1 e).1))]
        · rintro _ rfl
          refine condT (fun hb => ?_) (fun hb => ⟨by unfold rng; omega, ⟨i + 1, by omega, by omega, fun j hj => ?_⟩, by dsimp only; omega⟩)
          · rw [if_pos ⟨i, hi3, hb⟩] at h; exact h
          · rcases Nat.lt_or_ge j i with h1 | h1
            · exact hI j h1
            · obtain rfl : j = i := by omega
              exact hb
      · rw [if_neg (by
          rintro ⟨j, hj, hb⟩
          exact hI j (by omega) hb)] at h
        exact h
theorem ref50_Lists_s {f r : List GRat} {k : Nat} {Q : Int → Prop} (hk : 3 * k + 2 ≤ 35184372088000) (hf : Frs k f) (hr : Frs k r) (h : Q (listsE f r)) : ref50_Lists_W f r Q := by
  unfold listsE at h
  refine condN (fun hc => ?_) (fun hc => condE (fun hc1 => ?_) (fun hc1 => condT (fun hc2 => ?_) (fun hc2 => ?_)))
  · rw [if_pos (by omega)] at h; exact h
  · rw [if_pos (by omega)] at h; exact h
  · rw [if_neg (by omega), if_pos (by omega)] at h; exact h
  rw [if_neg (by omega), if_neg (by omega)] at h
  have hl : f.length = r.length := by omega
  refine ⟨fun x => ∃ i : Nat, x = i ∧ i ≤ f.length ∧ ∀ j : Nat, j < i → rateB (at' f (j : Int)) = true ∧ rateB (at' r (j : Int)) = true, fun x => f.length - x.toNat, ⟨0, rfl, by omega, fun j hj => absurd hj (by omega)⟩, ?_⟩
  rintro _ ⟨i, rfl, hi, hI⟩
  refine condT (fun hi2 => ?_) (fun hi2 => ?_)
  · have hi3 : i < f.length := by omega
    refine ⟨⟨by omega, hi2⟩, ref50_rate_s (hf i hi3).1 (condB (fun hb => ?_) (fun hb => ⟨⟨by omega, by omega⟩, ref50_rate_s (hr i (by omega)).1 (condB (fun hb2 => ?_) (fun hb2 => ⟨by unfold rng; omega, ⟨i + 1, by omega, by omega, fun j hj => ?_⟩, by dsimp only; omega⟩))⟩))⟩
    · rw [if_pos ⟨i, hi3, Or.inl (by simpa using hb)⟩] at h; exact h
    · rw [if_pos ⟨i, hi3, Or.inr (by simpa using hb2)⟩] at h; exact h
    · rcases Nat.lt_or_ge j i with h1 | h1
      · exact hI j h1
      · obtain rfl : j = i := by omega
        exact ⟨by simpa using hb, by simpa using hb2⟩
  · have hall : ∀ j : Nat, j < f.length → rateB (at' f (j : Int)) = true ∧ rateB (at' r (j : Int)) = true := fun j hj => hI j (by omega)
    rw [if_neg (by
      rintro ⟨j, hj, hb⟩
      have := hall j hj
      rw [this.1, this.2] at hb
      rcases hb with hb | hb <;> cases hb)] at h
    refine ⟨fun x => ∃ i : Nat, x = i ∧ i ≤ f.length ∧ ∀ j : Nat, j < i → valR (at' f (j : Int)) + valR (at' r (j : Int)) ≠ 0, fun x => f.length - x.toNat, ⟨0, rfl, by omega, fun j hj => absurd hj (by omega)⟩, ?_⟩
    rintro _ ⟨i, rfl, hi, hI⟩
    refine condT (fun hi2 => ?_) (fun hi2 => ?_)
    · have hi3 : i < f.length := by omega
      refine ⟨⟨by omega, hi2⟩, ⟨by omega, by omega⟩, _, _, ref50_Unavailable_s (hf i hi3).1 (hr i (by omega)).1 (hf i hi3).2 (hr i (by omega)).2 hk ⟨rfl, rfl⟩, ?_⟩
      have hu : (unav (at' f (i : Int)) (at' r (i : Int))).2 = if valR (at' f (i : Int)) + valR (at' r (i : Int)) = 0 then 8 else 0 := by
        unfold unav
        rw [if_neg (by rw [(hall i hi3).1, (hall i hi3).2]; simp)]
        split <;> rfl
      rw [hu]
      by_cases hb : valR (at' f (i : Int)) + valR (at' r (i : Int)) = 0
      · rw [if_pos hb]
        rw [if_pos ⟨i, hi3, hb⟩] at h
        exact ⟨fun _ => h, fun hh => by cases hh⟩
      · rw [if_neg hb]
        refine ⟨fun hh => (by cases hh), fun _ => ⟨by unfold rng; omega, ⟨i + 1, by omega, by omega, fun j hj => ?_⟩, by dsimp only; omega⟩⟩
        rcases Nat.lt_or_ge j i with h1 | h1
        · exact hI j h1
        · obtain rfl : j = i := by omega
          exact hb
    · rw [if_neg (by
        rintro ⟨j, hj, hb⟩
        exact hI j (by omega) hb)] at h
      exact h
theorem lists_zero {f r : List GRat} (h : listsE f r = 0) : f.length = r.length ∧ 0 < f.length ∧ f.length ≤ 8 ∧ ∀ i : Nat, i < f.length → (rateB (at' f (i : Int)) = true ∧ rateB (at' r (i : Int)) = true) ∧ valR (at' f (i : Int)) + valR (at' r (i : Int)) ≠ 0 := by
  unfold listsE at h
  split at h
  · cases h
  split at h
  · cases h
  split at h
  · cases h
  split at h
  · cases h
  rename_i h1 h2 h3 h4
  refine ⟨by omega, by omega, by omega, fun i hi => ⟨⟨?_, ?_⟩, fun e => h4 ⟨i, hi, e⟩⟩⟩
  · cases hb : rateB (at' f (i : Int)) with
    | true => rfl
    | false => exact absurd ⟨i, hi, Or.inl hb⟩ h3
  · cases hb : rateB (at' r (i : Int)) with
    | true => rfl
    | false => exact absurd ⟨i, hi, Or.inr hb⟩ h3
end Go.Gg
