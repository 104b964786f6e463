/- Chapter 17: Reorder of the diagram of a formula is the diagram with the other order. Conditions: none. -/
import Derived.Test.YtiamkdpljeemkaaMb
import Derived.Test.YtiamkdpljeemkaaWa
/- Chapter 17: Reorder of the diagram of a formula is the diagram with the other order. Conditions: none. -/
namespace Go.Gg
theorem law17_SiftingBuilds_s {f : GFormula} {a b : List Int} {Q : Bool → Prop} (ht : rng f.Top) (h : Q true) : law17_SiftingBuilds_W f a b Q := by
  refine ⟨fun x => x = false → (buildE f a = 0 ∧ buildE f b = 0) ∧ f.Vars ≤ 8, law17_awake_s (condB (fun hc => by cases hc) (fun _ => ref08_Check_s ht (condN (fun _ hc => by cases hc) (fun hf => condT (fun _ hc => by cases hc) (fun h8 => ref14_Check_s (condN (fun _ hc => by cases hc) (fun ha => ref14_Check_s (fun hb => ?_)))))))), fun x hx => condB (fun _ => law17_awake_s h) (fun hx0 => ?_)⟩
  · have hb' : ordE b f.Vars = 0 := by simpa using hb
    unfold buildE
    rw [if_neg (by simp [hf]), if_neg (by simp [hf])]
    exact ⟨⟨ha, hb'⟩, by omega⟩
  obtain ⟨⟨za, zb⟩, h8⟩ := hx hx0
  obtain ⟨g, oa, la⟩ := buildE_zero.1 za
  obtain ⟨_, ob, lb⟩ := buildE_zero.1 zb
  have da := fF_dep oa la
  have va := VD_can oa (by omega) da
  have hr : reoE (canD a (fF f)) b = 0 := reoE_zero.2 ⟨va, ob, by show b.length = a.length; omega⟩
  refine diagram_Build_s ht (fun hc => absurd za hc) (fun _ => by omega) (fun _ => diagram_Build_s ht (fun hc => absurd zb hc) (fun _ => by omega) (fun _ => sReorder_s (fun hc => absurd hr hc) (fun _ => by omega) (fun _ => ?_)))
  have e : canD b (fF f) = reoD (canD a (fF f)) b := by
    unfold reoD
    rw [dF_can oa da]
  exact condB (fun _ => condB (fun _ => condB (fun _ => base_canE ob e h) (fun hc => by cases hc)) (fun hc => by cases hc)) (fun hc => by cases hc)
end Go.Gg
