/- Chapter 17: Best. Conditions: none. -/
import Derived.Test.YtiamkdpljeemkaaMb
import Derived.Test.YtiamkdpljeemkaaWa
/- Chapter 17: Best. Conditions: none. -/
namespace Go.Gg
theorem best_VD {d : GDiagram} (h : VD d) (h12 : d.Order.length ≤ 12) : VD (bestD d) := by
  obtain ⟨o, ho, hl, he⟩ := (best_facts h h12).1
  rw [he]
  exact reo_VD h ho hl (by omega)
theorem law17_SiftingBest_s {d : GDiagram} {Q : Bool → Prop} (h : Q true) : law17_SiftingBest_W d Q := by
  refine ⟨fun _ => True, law17_awake_s (condB (fun _ => trivial) (fun _ => condT (fun _ => law17_large_s (condB (fun _ => trivial) (fun _ => condT (fun _ => trivial) (fun _ => condT (fun _ => trivial) (fun _ => trivial))))) (fun _ => condT (fun _ => trivial) (fun _ => condT (fun _ => trivial) (fun _ => trivial))))), fun x _ => condB (fun _ => law17_awake_s h) (fun _ => ?_)⟩
  refine Best_s (fun hc => ref15_Check_s ⟨fun c => c = dgE d, condE (fun he => absurd he hc) (fun _ => rfl), fun c hcd => ?_⟩) (fun hz h6 => ref15_Check_s ⟨fun c => c = 4, condE (fun _ => condT (fun _ => rfl) (fun hc => absurd (show (6 : Int) < d.Order.length by omega) hc)) (fun hc => absurd hz hc), fun c hcd => ?_⟩) (fun hz h6 => ref15_Check_s ⟨fun c => c = 0, condE (fun _ => condT (fun hc => absurd hc (by omega)) (fun _ => hz)) (fun hc => absurd hz hc), fun c hcd => ?_⟩)
  · subst hcd
    exact condN (fun _ => law17_none_s h) (fun he => absurd he hc)
  · subst hcd
    exact condN (fun _ => law17_none_s h) (fun he => absurd he (by decide))
  · subst hcd
    have hd := dgE_zero.1 hz
    exact condN (fun hc => absurd rfl hc) (fun _ => condB (fun _ => ⟨_, ref17_Best_s hd h6 rfl, _, base_VD (best_VD hd (by omega)) rfl rfl, h⟩) (fun hc => by cases hc))
end Go.Gg
