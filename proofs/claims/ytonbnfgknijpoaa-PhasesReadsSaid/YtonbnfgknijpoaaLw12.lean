/- The law PhasesReads, over the formula. Conditions: the arguments' words are words. -/
import Derived.Test.YtonbnfgknijpoaaM46b
import Derived.Test.YtonbnfgknijpoaaWLPhasesReads
namespace Go.Gg
theorem law46_PhasesReads_s {m : GMission} {l : List Int} {j : Int} {Q : Bool → Prop} (w : WrM m) (ll : l.length ≤ 9223372036854775807) (h : Q true) : law46_PhasesReads_W m l j Q := by
  refine ⟨fun y => y = false → FrM m, ?_, ?_⟩
  · refine law46_awake_s (condB (fun hh => by cases hh) fun _ => ?_)
    exact law46_large_s w fun b hb => condB (fun _ hh => by cases hh) fun e _ => hb e
  · intro y hy
    refine condB (fun _ => law46_awake_s h) fun hf => ?_
    have f := hy hf
    by_cases he : histE m l = 0
    · obtain ⟨hm, hh⟩ := okH he
      have o := okM w f hm
      refine phases_Failed_s w f ll (fun hne => absurd he hne) (fun _ hj => ?_) (fun _ hj => ?_)
      all_goals
        refine phases_Fails_s w f ll (fun hne => absurd he hne) fun _ => phases_Weight_s w f ll (fun hne => absurd he hne) fun _ hR => phases_State_s w f ll (fun hne => absurd he hne) fun _ => ref46_CheckHistory_s w f ll ?_
        rw [he]
        refine condN (fun hc => absurd rfl hc) fun _ => condB (fun hc => by cases hc) fun _ => condB (fun hc => by cases hc) fun _ => condB (fun hc => by cases hc) fun _ => ?_
        refine ⟨_, ref46_Fails_s o hh rfl, condN (fun hc => absurd rfl hc) fun _ => ⟨_, ref46_State_s o hh rfl, condN (fun hc => absurd rfl hc) fun _ => ⟨_, ref46_Weight_s o hh (fun _ => rfl), true, base_Rat_s hR.len.1 hR.len.2 (by rw [decide_eq_true rfl]), condB (fun hc => by cases hc) fun _ => ?_⟩⟩⟩
        refine ⟨fun y => y = decide (j < 0 ∨ (m.Phases.length : Int) ≤ j), condT (fun hc => (decide_eq_true (Or.inl hc)).symm) (fun hc => decide_eq_decide.2 ⟨Or.inr, fun hh => hh.resolve_left hc⟩), ?_⟩
        rintro _ rfl
      · exact condT (fun _ => condE (fun _ => condB (fun _ => h) (fun hh => by cases hh)) (fun hh => absurd rfl hh)) (fun hn => absurd hj hn)
      · refine condT (fun hn => by omega) (fun _ => condB (fun _ => ref46_Failed_s (by rw [hh.1]; have := o.p24; omega) ?_) (fun hh => by cases hh))
        rw [show ((failM l j : Int) == (failM l j : Int)) = true by simp]
        exact h
    · refine phases_Failed_s w f ll (fun _ => ?_) (fun h0 => absurd h0 he) (fun h0 => absurd h0 he)
      refine phases_Fails_s w f ll (fun _ => ?_) (fun h0 => absurd h0 he)
      refine phases_Weight_s w f ll (fun _ => ?_) (fun h0 => absurd h0 he)
      refine phases_State_s w f ll (fun _ => ?_) (fun h0 => absurd h0 he)
      refine ref46_CheckHistory_s w f ll (condN (fun _ => ?_) (fun hh => absurd hh he))
      have hnum : ∀ {K : Int → Prop}, K (histE m l) → base_Num_W (some (histE m l)) K := fun {K} hK => by
        rw [← errO_ne he]; exact base_Num_s hK
      refine condE (fun _ => condE (fun _ => condE (fun _ => base_Rat_s (by simp) (by simp) ?_) (fun hh => absurd rfl hh)) (fun hh => absurd rfl hh)) (fun hh => absurd rfl hh)
      rw [decide_eq_true rfl]
      refine condB (fun _ => hnum (condE (fun _ => hnum (condE (fun _ => hnum (condE (fun _ => hnum ?_) (fun hh => absurd rfl hh))) (fun hh => absurd rfl hh))) (fun hh => absurd rfl hh))) (fun hh => by cases hh)
      rw [show (histE m l == histE m l) = true by simp]
      exact h
end Go.Gg
