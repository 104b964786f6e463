/- The law CommonTotal, over the formula. Conditions: the arguments' words are words. -/
import Derived.Test.YtonbnfgknijpoaaM45b
import Derived.Test.YtonbnfgknijpoaaWLCommonTotal
namespace Go.Gg
theorem law45_CommonTotal_s {p b : GRat} {Q : Bool → Prop} (wp : WrR p) (wb : WrR b) (h : Q true) : law45_CommonTotal_W p b Q := by
  refine ⟨fun y => y = false → Sh p ∧ Sh b, ?_, ?_⟩
  · refine law45_awake_s (condB (fun hh => by cases hh) fun _ => ?_)
    refine law45_short_s (by simp) (fun i hi => ?_) fun r1 h1 e1 => ?_
    · match i with
      | 0 => exact wp
      | 1 => exact wb
      | i + 2 => exact absurd hi (by simp)
    · have h3 := (h1 (by simpa using e1)).2
      exact ⟨h3 0 (by simp), h3 1 (by simp)⟩
  · intro y hy
    refine condB (fun _ => law45_awake_s h) fun hf => ?_
    obtain ⟨hp, hb⟩ := hy hf
    refine common_Beta_s hp hb ?_
    by_cases hc : probB p = false ∨ probB b = false
    · have e : betaM p b = (ratOf 0, ratOf 0, 3) := if_pos hc
      rw [e]
      refine condB (fun _ => rational_Prob_s hp.1 (condB (fun _ => h) (fun h1 => rational_Prob_s hb.1 ?_))) (fun hh => by cases hh)
      have h2 : probB b = false := hc.resolve_left (by simpa using h1)
      rw [h2]; exact h
    · rw [not_or] at hc
      obtain ⟨a, e, ⟨a0, a1⟩, ha, ra, ⟨c0, c1⟩, haz⟩ := beta_val hp hb (by simpa using hc.1) (by simpa using hc.2)
      have rc : Rp 2562 (ratOf (valR b * valR p)) (valR b * valR p) := .of ((RB_mul hb.2.2 hp.2.2).mono (by omega)) (by decide)
      rw [e]
      have hbz : valR b = 0 → valR b * valR p = 0 := fun hh => by rw [hh, Rat.zero_mul]
      have hb1 : valR b = 1 → valR b * valR p = valR p := fun hh => by rw [hh, Rat.one_mul]
      generalize valR b * valR p = c at *
      refine condB (fun hh => by cases hh) fun _ => of_p (by unfold rng; omega) fun h1 => sub_pd h1 ra (by decide) fun h2 => sub_pd h1 rc (by decide) fun h3 => mul_pd h2 h3 (by decide) fun h4 => prob_pd ra.1 ?_
      rw [probB_in a0 a1]
      refine condB (fun hh => by cases hh) fun _ => prob_pd rc.1 ?_
      rw [probB_in c0 c1]
      refine condB (fun hh => by cases hh) fun _ => sub_pd h1 h4 (by decide) fun h5 => cmp_pd h5 hp (by decide) (condN (fun hne => absurd (sgn_is0 ?_) hne) fun _ => ?_)
      · rw [one_int]; grind
      refine ⟨fun _ => True, ?_, fun _ _ => ?_⟩
      · exact sign_p hb (condE (fun hz => sign_p rc (condN (fun hn => absurd (sgn_is0 (hbz (sgnR_eq.1 hz))) hn) (fun _ => trivial))) (fun _ => trivial))
      · refine cmp_p hb h1 (by decide) (condN (fun _ => h) (fun hz => ?_))
        have hz2 : valR b = 1 := sub_eq_zero.1 (sgnR_eq.1 hz)
        have hcp := hb1 hz2
        have ha0 : a = 0 := by
          by_cases hh : 1 - c = 0
          · exact haz hh
          · rw [hcp] at ha hh
            have h0 : valR p - valR p = 0 := sub_eq_zero.2 rfl
            rw [h0] at ha
            exact (Rat.mul_eq_zero.1 ha).resolve_right hh
        refine sign_p ra (condE (fun _ => cmp_p rc hp (by decide) ?_) (fun hne => absurd (sgn_is0 ha0) hne))
        rw [sgn_is0 (sub_eq_zero.2 hcp)]
        exact h
/-! ### Sums -/
end Go.Gg
