/- Chapter 15: two formulas have equal diagrams exactly if they are equal. Conditions: none. -/
import Derived.Test.YtiamkdpljeemkaaLw16
import Derived.Test.YtiamkdpljeemkaaWa
/- Chapter 15: two formulas have equal diagrams exactly if they are equal. Conditions: none. -/
namespace Go.Gg
theorem law15_DiagramEqual_s {f g1 : GFormula} {o : List Int} {Q : Bool → Prop} (ht : rng f.Top) (ht' : rng g1.Top) (h : Q true) : law15_DiagramEqual_W f g1 o Q := by
  refine ⟨fun x => x = false → (buildE f o = 0 ∧ f.Vars ≤ 10) ∧ (buildE g1 o = 0 ∧ g1.Vars ≤ 10), law15_awake_s (condB (fun hc => by cases hc) (fun _ => law15_valid_s ht (condB (fun _ hc => by cases hc) (fun hc => by cases hc)) (fun hz h10 => condB (fun hc => by cases hc) (fun _ => law15_valid_s ht' (fun hc => by cases hc) (fun hz' h10' _ => ⟨⟨hz, h10⟩, hz', h10'⟩))))), fun x hx => condB (fun _ => law15_awake_s h) (fun hx0 => ?_)⟩
  obtain ⟨⟨hz, h10⟩, hz', h10'⟩ := hx hx0
  obtain ⟨g, hO, hl, h12, hd, hV, hE⟩ := valid_of hz h10
  obtain ⟨g', _, hl', _, hd', hV', hE'⟩ := valid_of hz' h10'
  have v0 := g.v0; have v0' := g'.v0
  refine diagram_Build_s ht (fun hc => absurd hz hc) (fun _ => by omega) (fun _ => diagram_Build_s ht' (fun hc => absurd hz' hc) (fun _ => by omega) (fun _ => truth_Equal_s g g' (by omega) (by omega) (fun b i hb => ?_)))
  refine condB (fun _ => condB (fun _ => condB (fun _ => base_can hO ?_) (fun hc => by cases hc)) (fun hc => by cases hc)) (fun hc => by cases hc)
  have e : b = decide (canD o (fF f) = canD o (fF g1)) := by
    rw [Bool.eq_iff_iff, hb, decide_eq_true_eq]
    constructor
    · intro he; rw [he]
    · intro he
      rw [← dF_can hO hd, ← dF_can hO hd', he]
  rw [← e, beq_self_eq_true]
  exact h
end Go.Gg
