/- The laws of totals. Conditions: the arguments' words are words. -/
import Derived.Test.YtonbnfgknijpoaaM45
namespace Go.Gg

theorem mul_mono1 {a b : Rat} (ha : 0 ≤ a) (hb : b ≤ 1) : a * b ≤ a := by
  have := Rat.mul_le_mul_of_nonneg_left hb ha
  rwa [Rat.mul_one] at this
theorem beta_val {p b : GRat} (hp : Sh p) (hb : Sh b) (po : probB p = true) (bo : probB b = true) :
    ∃ a, betaM p b = (ratOf a, ratOf (valR b * valR p), 0) ∧ (0 ≤ a ∧ a ≤ 1) ∧ a * (1 - valR b * valR p) = valR p - valR b * valR p ∧ Rp 10000 (ratOf a) a ∧ (0 ≤ valR b * valR p ∧ valR b * valR p ≤ 1) ∧ (1 - valR b * valR p = 0 → a = 0) := by
  obtain ⟨_, p0, p1⟩ := probB_ok po
  obtain ⟨_, b0, b1⟩ := probB_ok bo
  have h1 := RB_mul hb.2.2 hp.2.2
  have c0 : 0 ≤ valR b * valR p := Rat.mul_nonneg b0 p0
  have cp : valR b * valR p ≤ valR p := by rw [Rat.mul_comm]; exact mul_mono1 p0 b1
  have c1 : valR b * valR p ≤ 1 := Rat.le_trans cp p1
  unfold betaM
  rw [if_neg (by rw [po, bo]; simp)]
  by_cases hz : 1 - valR b * valR p = 0
  · rw [if_pos hz]
    refine ⟨0, rfl, ⟨Rat.le_refl, by decide⟩, ?_, .zero (by omega) (by decide), ⟨c0, c1⟩, fun _ => rfl⟩
    generalize valR b * valR p = c at *
    have : c = 1 := by grind
    subst this
    have : valR p = 1 := Rat.le_antisymm p1 cp
    rw [this]; decide +kernel
  · rw [if_neg hz]
    refine ⟨_, rfl, ?_, Rat.div_mul_cancel hz, .of ((RB_div (RB_sub hp.2.2 h1) (RB_sub (RB_of_int (n := 1) (by unfold rng; omega)) h1)).mono (by omega)) (by decide), ⟨c0, c1⟩, fun e => absurd e hz⟩
    generalize valR b * valR p = c at *
    have hpos : 0 < 1 - c := by
      rcases Rat.le_iff_lt_or_eq.1 c1 with h | h
      · exact (Rat.lt_iff_sub_pos c 1).1 h
      · exact absurd (by rw [h]; decide +kernel) hz
    have hinv := Rat.le_of_lt (Rat.inv_pos.2 hpos)
    have hm : 0 ≤ valR p - c := (Rat.le_iff_sub_nonneg c (valR p)).1 cp
    refine ⟨by rw [Rat.div_def]; exact Rat.mul_nonneg hm hinv, ?_⟩
    have h2 : (valR p - c) ≤ (1 - c) := by grind
    have h3 := Rat.mul_le_mul_of_nonneg_right h2 hinv
    rw [Rat.mul_inv_cancel _ hz] at h3
    rw [Rat.div_def]; exact h3
theorem probB_in {q : Rat} (h0 : 0 ≤ q) (h1 : q ≤ 1) : probB (ratOf q) = true := by rw [probB_ratOf, decide_eq_true h0, decide_eq_true h1]; rfl
theorem sgn_is0 {q : Rat} (h : q = 0) : sgnR q = 0 := sgnR_eq.2 h
theorem one_int : ((1 : Int) : Rat) = 1 := rfl
theorem rest_in {p : GRat} {f : List GRat} (hp : 0 ≤ valR p) (hf : ∀ i : Nat, i < f.length → 0 ≤ valR (at' f (i : Int)) ∧ valR (at' f (i : Int)) ≤ 1) : ∀ k, k ≤ f.length → 0 ≤ restR p f k ∧ restR p f k ≤ valR p
  | 0, _ => ⟨hp, Rat.le_refl⟩
  | k + 1, h => by
    have h1 := rest_in hp hf k (by omega)
    have h2 := hf k (by omega)
    exact ⟨Rat.mul_nonneg h1.1 h2.1, Rat.le_trans (mul_mono1 h1.1 h2.2) h1.2⟩
theorem own_in {p : GRat} {f : List GRat} (hp : 0 ≤ valR p) (hf : ∀ i : Nat, i < f.length → 0 ≤ valR (at' f (i : Int)) ∧ valR (at' f (i : Int)) ≤ 1) {k : Nat} (h : k ≤ f.length) : 0 ≤ ownR p f k ∧ ownR p f k ≤ valR p := by
  have h1 := rest_in hp hf k h
  unfold ownR
  split
  · rename_i hk
    have h2 := hf k hk
    exact ⟨Rat.mul_nonneg h1.1 ((Rat.le_iff_sub_nonneg _ _).1 h2.2), Rat.le_trans (mul_mono1 h1.1 (by have := h2.1; grind)) h1.2⟩
  · exact h1
theorem out_in {p : GRat} {f : List GRat} (hp : 0 ≤ valR p) (hf : ∀ i : Nat, i < f.length → 0 ≤ valR (at' f (i : Int)) ∧ valR (at' f (i : Int)) ≤ 1) (h3 : f.length ≤ 3) {k : Nat} (h : k ≤ f.length) : (0 ≤ outR p f k ∧ outR p f k ≤ valR p) ∧ outR p f k * ((chz (f.length : Nat) k : Int) : Rat) = ownR p f k := by
  have h1 := own_in hp hf h
  have hne := chz_ne (n := f.length) (by omega) h
  have hpos := (chz_small f.length (by omega) k (by omega)).2.2 h
  have hC : (1 : Rat) ≤ ((chz (f.length : Nat) k : Int) : Rat) := by
    have : ((1 : Int) : Rat) ≤ ((chz (f.length : Nat) k : Int) : Rat) := Rat.intCast_le_intCast.2 (by omega)
    exact this
  unfold outR
  generalize ((chz (f.length : Nat) k : Int) : Rat) = C at *
  have hinv := Rat.le_of_lt (Rat.inv_pos.2 (show 0 < C by grind))
  have h0 : 0 ≤ ownR p f k / C := by rw [Rat.div_def]; exact Rat.mul_nonneg h1.1 hinv
  have e := Rat.div_mul_cancel (a := ownR p f k) hne
  have h4 := Rat.mul_le_mul_of_nonneg_left hC h0
  rw [Rat.mul_one, e] at h4
  exact ⟨⟨h0, Rat.le_trans h4 h1.2⟩, e⟩
theorem sum_own {p : GRat} {f : List GRat} : ∀ j, j ≤ f.length → sumTo (ownR p f) j = valR p - restR p f j
  | 0, _ => by rw [sumTo, restR]; exact (sub_eq_zero.2 rfl).symm
  | j + 1, h => by
    rw [sumTo, sum_own j (by omega), ownR, if_pos (by omega), restR]
    grind
end Go.Gg
