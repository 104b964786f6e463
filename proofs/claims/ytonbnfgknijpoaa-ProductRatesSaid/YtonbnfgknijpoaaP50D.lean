/- The law of the rates. Conditions: the argument's words are words. -/
import Derived.Test.YtonbnfgknijpoaaP50C
namespace Go.Gg

theorem law50_part_s {n d : Int} {Q : GRat → Prop} (hn : rng n) (hd : rng d) (h0 : d ≠ 0) (h : Q (ratOf ((n : Rat) / (d : Rat)))) : law50_part_W n d Q :=
  ref02_Make_s hn hd (fun e => absurd e h0) fun _ => h
theorem Frs_two {a b : GRat} {k : Nat} (ha : Fr a ∧ RB k (valR a)) (hb : Fr b ∧ RB k (valR b)) : Frs k [a, b] := fun i hi => by
  match i with
  | 0 => exact ha
  | 1 => exact hb
  | i + 2 => exact absurd hi (by simp)
theorem Fr_small {n d : Int} (hn : n.natAbs < 8) (hd : d.natAbs < 8) : Fr (ratOf ((n : Rat) / (d : Rat))) ∧ RB 8 (valR (ratOf ((n : Rat) / (d : Rat)))) := by
  have h1 : ∀ m : Int, m.natAbs < 8 → RB 3 (m : Rat) := fun m hm => RB_int (by omega) hm
  have h := (RB_div (h1 n hn) (h1 d hd)).mono (show 3 + 3 ≤ 8 by omega)
  exact ⟨Fr_ratOf h (by omega), by rw [valR_ratOf]; exact h⟩
theorem stat_lens {f r : List GRat} {k : Nat} (hk1 : 1 ≤ k) (hk : k ≤ 1000000000) (hf : Frs k f) (hr : Frs k r) : (statM f r).1.length ≤ 1099511627776 ∧ ∀ i : Nat, i < (statM f r).1.length → Fr (at' (statM f r).1 (i : Int)) ∧ RB (8 * (3 * k + 3) + 1) (valR (at' (statM f r).1 (i : Int))) := by
  unfold statM
  by_cases he : listsE f r = 0
  · rw [if_pos he]
    obtain ⟨hl, h0, h8, hall⟩ := lists_zero he
    have hp := pow_le_256 h8
    refine ⟨by rw [Lst_len]; omega, fun i hi => ?_⟩
    rw [Lst_len] at hi
    have hat : at' (Lst (uval f r) f.length) (i : Int) = ratOf (pr (uval f r) f.length i) := at_map hi
    have hB : f.length * (3 * k + 3) + 1 ≤ 8 * (3 * k + 3) + 1 := by
      have := Nat.mul_le_mul_right (3 * k + 3) h8
      omega
    have hrb := (pr_RB (u := uval f r) (c := 3 * k + 3) (n := f.length) (by omega) (fun j hj => uval_RB hk1 hf hr hl hj) i).mono hB
    show Fr (at' (Lst (uval f r) f.length) (i : Int)) ∧ _
    rw [hat]
    exact ⟨Fr_ratOf hrb (by omega), by rw [valR_ratOf]; exact hrb⟩
  · rw [if_neg he]
    exact ⟨by simp, fun i hi => absurd hi (by simp)⟩
theorem awake_stat : statM [ratOf ((1 : Int) / (1 : Int)), ratOf ((1 : Int) / (1 : Int))] [ratOf ((3 : Int) / (1 : Int)), ratOf ((1 : Int) / (1 : Int))] = ([ratOf ((3 : Int) / (8 : Int)), ratOf ((1 : Int) / (8 : Int)), ratOf ((3 : Int) / (8 : Int)), ratOf ((1 : Int) / (8 : Int))], 0) := by
  have u0 : uval [ratOf ((1 : Int) / (1 : Int)), ratOf ((1 : Int) / (1 : Int))] [ratOf ((3 : Int) / (1 : Int)), ratOf ((1 : Int) / (1 : Int))] 0 = ((1 : Int) : Rat) / (4 : Int) := by
    show valR (ratOf _) / (valR (ratOf _) + valR (ratOf _)) = _
    rw [valR_ratOf, valR_ratOf]
    decide +kernel
  have u1 : uval [ratOf ((1 : Int) / (1 : Int)), ratOf ((1 : Int) / (1 : Int))] [ratOf ((3 : Int) / (1 : Int)), ratOf ((1 : Int) / (1 : Int))] 1 = ((1 : Int) : Rat) / (2 : Int) := by
    show valR (ratOf _) / (valR (ratOf _) + valR (ratOf _)) = _
    rw [valR_ratOf]
    decide +kernel
  have hrate : ∀ n : Int, 0 < n → n < 8 → rateB (ratOf ((n : Rat) / ((1 : Int) : Rat))) = true := by
    intro n h1 h2
    rw [rateB, okR_ratOf, valR_ratOf, Bool.true_and]
    have hn : n = 1 ∨ n = 2 ∨ n = 3 ∨ n = 4 ∨ n = 5 ∨ n = 6 ∨ n = 7 := by omega
    rcases hn with rfl | rfl | rfl | rfl | rfl | rfl | rfl <;> decide +kernel
  have hl : listsE [ratOf ((1 : Int) / (1 : Int)), ratOf ((1 : Int) / (1 : Int))] [ratOf ((3 : Int) / (1 : Int)), ratOf ((1 : Int) / (1 : Int))] = 0 := by
    unfold listsE
    rw [if_neg (by simp), if_neg (by simp), if_neg, if_neg]
    · rintro ⟨i, hi, h⟩
      match i with
      | 0 =>
        revert h
        show ¬ (valR (ratOf _) + valR (ratOf _) = 0)
        rw [valR_ratOf, valR_ratOf]
        decide +kernel
      | 1 =>
        revert h
        show ¬ (valR (ratOf _) + valR (ratOf _) = 0)
        rw [valR_ratOf]
        decide +kernel
      | i + 2 => exact absurd hi (by simp)
    · rintro ⟨i, hi, h⟩
      match i with
      | 0 =>
        have h : rateB (ratOf (((1 : Int) : Rat) / ((1 : Int) : Rat))) = false ∨ rateB (ratOf (((3 : Int) : Rat) / ((1 : Int) : Rat))) = false := h
        rw [hrate 1 (by omega) (by omega), hrate 3 (by omega) (by omega)] at h
        rcases h with h | h <;> cases h
      | 1 =>
        have h : rateB (ratOf (((1 : Int) : Rat) / ((1 : Int) : Rat))) = false ∨ rateB (ratOf (((1 : Int) : Rat) / ((1 : Int) : Rat))) = false := h
        rw [hrate 1 (by omega) (by omega)] at h
        rcases h with h | h <;> cases h
      | i + 2 => exact absurd hi (by simp)
  unfold statM
  rw [if_pos hl]
  have key : ∀ u : Nat → Rat, u 0 = ((1 : Int) : Rat) / (4 : Int) → u 1 = ((1 : Int) : Rat) / (2 : Int) → Lst u 2 = [ratOf ((3 : Int) / (8 : Int)), ratOf ((1 : Int) / (8 : Int)), ratOf ((3 : Int) / (8 : Int)), ratOf ((1 : Int) / (8 : Int))] := by
    intro u h0 h1
    show [ratOf (1 * (1 - u 0) * (1 - u 1)), ratOf (1 * u 0 * (1 - u 1)), ratOf (1 * (1 - u 0) * u 1), ratOf (1 * u 0 * u 1)] = _
    rw [h0, h1]
    have e1 : (1 : Rat) * (1 - ((1 : Int) : Rat) / ((4 : Int) : Rat)) * (1 - ((1 : Int) : Rat) / ((2 : Int) : Rat)) = ((3 : Int) : Rat) / ((8 : Int) : Rat) := by decide +kernel
    have e2 : (1 : Rat) * (((1 : Int) : Rat) / ((4 : Int) : Rat)) * (1 - ((1 : Int) : Rat) / ((2 : Int) : Rat)) = ((1 : Int) : Rat) / ((8 : Int) : Rat) := by decide +kernel
    have e3 : (1 : Rat) * (1 - ((1 : Int) : Rat) / ((4 : Int) : Rat)) * (((1 : Int) : Rat) / ((2 : Int) : Rat)) = ((3 : Int) : Rat) / ((8 : Int) : Rat) := by decide +kernel
    have e4 : (1 : Rat) * (((1 : Int) : Rat) / ((4 : Int) : Rat)) * (((1 : Int) : Rat) / ((2 : Int) : Rat)) = ((1 : Int) : Rat) / ((8 : Int) : Rat) := by decide +kernel
    rw [e1, e2, e3, e4]
  exact congrArg (fun l => (l, (0 : Int))) (key _ u0 u1)
theorem law50_awake_s {Q : Bool → Prop} (h : Q true) : law50_awake_W Q := by
  have r : ∀ n : Int, n.natAbs < 9 → rng n := fun n hn => by unfold rng; omega
  refine law50_part_s (r 1 (by decide)) (r 1 (by decide)) (by decide) (law50_part_s (r 1 (by decide)) (r 1 (by decide)) (by decide) (law50_part_s (r 3 (by decide)) (r 1 (by decide)) (by decide) (law50_part_s (r 1 (by decide)) (r 1 (by decide)) (by decide) ?_)))
  have hf := Frs_two (Fr_small (n := 1) (d := 1) (by decide) (by decide)) (Fr_small (n := 1) (d := 1) (by decide) (by decide))
  have hr := Frs_two (Fr_small (n := 3) (d := 1) (by decide) (by decide)) (Fr_small (n := 1) (d := 1) (by decide) (by decide))
  refine product_Stationary_s (k := 8) (by omega) (by omega) hf hr ?_
  have hl := stat_lens (k := 8) (by omega) (by omega) hf hr
  rw [awake_stat] at hl ⊢
  refine condB (fun _ => ?_) (fun hh => (by cases hh))
  refine law50_part_s (r 3 (by decide)) (r 8 (by decide)) (by decide) (law50_part_s (r 1 (by decide)) (r 8 (by decide)) (by decide) (law50_part_s (r 3 (by decide)) (r 8 (by decide)) (by decide) (law50_part_s (r 1 (by decide)) (r 8 (by decide)) (by decide) ?_)))
  exact base_Rats_same hl.1 (fun i hi => ⟨Nat.le_trans (hl.2 i hi).1.2.2.1 (by omega), Nat.le_trans (hl.2 i hi).1.2.2.2 (by omega)⟩) h
end Go.Gg
