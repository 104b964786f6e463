/- The law PhasesChecks, over the formula. Conditions: the arguments' words are words. -/
import Derived.Test.YtonbnfgknijpoaaM46b
import Derived.Test.YtonbnfgknijpoaaWLPhasesChecks
namespace Go.Gg
theorem law46_PhasesChecks_s {m : GMission} {l : List Int} {Q : Bool → Prop} (w : WrM m) (ll : l.length ≤ 9223372036854775807) (h : Q true) : law46_PhasesChecks_W m l Q := by
  refine ⟨fun y => y = false → FrM m, ?_, ?_⟩
  · refine law46_awake_s (condB (fun hh => by cases hh) fun _ => ?_)
    exact law46_large_s w fun b hb => condB (fun _ hh => by cases hh) fun e _ => hb e
  · intro y hy
    refine condB (fun _ => law46_awake_s h) fun hf => ?_
    have f := hy hf
    refine ⟨_, phases_Check_s w f rfl, _, base_Num_s rfl, _, ref46_Check_s w f rfl, condE (fun _ => ?_) (fun hh => absurd rfl hh)⟩
    refine ⟨_, phases_CheckHistory_s w f ll rfl, _, base_Num_s rfl, _, ref46_CheckHistory_s w f ll rfl, ?_⟩
    show Q (histE m l == histE m l)
    rw [show (histE m l == histE m l) = true by simp]
    exact h
end Go.Gg
