/- The law ProductMarginals, over the formula. Conditions: the arguments' words are words. -/
import Derived.Test.YtonbnfgknijpoaaM50b
import Derived.Test.YtonbnfgknijpoaaWLProductMarginals
namespace Go.Gg
theorem law50_ProductMarginals_s {x : GRates} {i : Int} {Q : Bool → Prop} (l1 : x.Fail.length ≤ 9223372036854775807) (l2 : x.Repair.length ≤ 9223372036854775807)
    (w1 : WrL x.Fail) (w2 : WrL x.Repair) (hi0 : 0 ≤ i) (hi1 : i ≤ 255) (h : Q true) : law50_ProductMarginals_W x i Q := by
  refine ⟨fun y => y = false → Frs 65 x.Fail ∧ Frs 65 x.Repair, ?_, ?_⟩
  · refine law50_awake_s (condB (fun hh => (by cases hh)) fun _ => ?_)
    refine law50_short_s l1 fun r1 h1 => condB (fun _ hh => (by cases hh)) fun e1 => ?_
    refine law50_short_s l2 fun r2 h2 e2 => ?_
    have h1 := (h1 (by simpa using e1)).2
    have h2 := (h2 (by simpa using e2)).2
    exact ⟨fun i hi => Two_Fr (w1 i hi) (h1 i hi), fun i hi => Two_Fr (w2 i hi) (h2 i hi)⟩
  · intro y hy
    refine condB (fun _ => law50_awake_s h) fun hf => ?_
    obtain ⟨f1, f2⟩ := hy hf
    refine product_Stationary_s (k := 65) (by omega) (by omega) f1 f2 ?_
    have hlens := stat_lens (k := 65) (by omega) (by omega) f1 f2
    by_cases he : listsE x.Fail x.Repair = 0
    · obtain ⟨hl, h0, h8, hall⟩ := lists_zero he
      have hs : statM x.Fail x.Repair = (Lst (uval x.Fail x.Repair) x.Fail.length, 0) := if_pos he
      rw [hs] at hlens ⊢
      refine joinIn ⟨fun hh => (by cases hh), fun _ => ?_⟩
      refine condB (fun hh => ?_) (fun _ => ⟨by omega, letIn ?_⟩)
      · simp at hh
        rw [hh] at h0
        exact absurd h0 (by simp)
      · have hw : IntKind.i64.wrap i = i := wrap_i64_id (by omega) (by omega)
        obtain ⟨j, rfl⟩ := Int.eq_ofNat_of_zero_le hi0
        have hk : Int.tmod (IntKind.i64.wrap (j : Int)) (x.Fail.length : Int) = ((j % x.Fail.length : Nat) : Int) := by
          rw [hw, Int.tmod_eq_emod_of_nonneg (by omega)]
          rfl
        rw [hk]
        have hlt := Nat.mod_lt j h0
        generalize j % x.Fail.length = k at hlt
        refine product_Marginal_s (B := 8 * (3 * 65 + 3) + 1) (by omega) (by omega) (by omega) hlens.2 ?_
        rw [margM_Lst h8 hlt]
        refine ⟨⟨by omega, by omega⟩, ⟨by omega, by omega⟩, _, _, product_Unavailable_s (f1 k hlt).1 (f2 k (by omega)).1 (f1 k hlt).2 (f2 k (by omega)).2 (by omega) ⟨rfl, rfl⟩, ?_⟩
        rw [unav_ok (hall k hlt).1.1 (hall k hlt).1.2 (hall k hlt).2]
        refine ⟨fun _ => ⟨fun _ => ?_, fun hh => (by cases hh)⟩, fun hh => (by cases hh)⟩
        have hu := (uval_RB (k := 65) (by omega) f1 f2 hl hlt).1
        refine rational_Cmp_s (Fr_ratOf hu (by omega)) (Fr_ratOf hu (by omega)) (by rw [valR_ratOf]; exact hu) (by rw [show valR (ratOf _) = _ from valR_ratOf _]; exact hu) (by omega) ?_
        have e0 : sgnR (valR (ratOf (uval x.Fail x.Repair k)) - valR (ratOf (uval x.Fail x.Repair k))) = 0 := sgnR_zero.2 (by rw [Rat.sub_eq_add_neg, Rat.add_neg_cancel])
        show Q (sgnR (valR (ratOf (uval x.Fail x.Repair k)) - valR (ratOf (uval x.Fail x.Repair k))) == 0)
        rw [e0]
        exact h
    · have hs : statM x.Fail x.Repair = ([], listsE x.Fail x.Repair) := if_neg he
      rw [hs]
      rw [show errO (listsE x.Fail x.Repair) = some (listsE x.Fail x.Repair) from if_neg he]
      refine joinIn ⟨fun _ => ?_, fun hh => (by cases hh)⟩
      exact ⟨fun _ => h, fun hh => (by cases hh)⟩
end Go.Gg
