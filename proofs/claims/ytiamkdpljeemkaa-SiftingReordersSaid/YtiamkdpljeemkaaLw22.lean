/- Chapter 17: Reorder. Conditions: none. -/
import Derived.Test.YtiamkdpljeemkaaMb
import Derived.Test.YtiamkdpljeemkaaWa
/- Chapter 17: Reorder. Conditions: none. -/
namespace Go.Gg
theorem law17_SiftingReorders_s {d : GDiagram} {o : List Int} {Q : Bool → Prop} (h : Q true) : law17_SiftingReorders_W d o Q := by
  refine ⟨fun x => x = false → dgE d = 0 → (d.Order.length : Int) ≤ 8, law17_awake_s (condB (fun hc => by cases hc) (fun _ => law17_large_s (condB (fun _ hc => by cases hc) (fun hb _ hz => largeM_no hb hz)))), fun x hx => condB (fun _ => law17_awake_s h) (fun hx0 => ?_)⟩
  have h8 := hx hx0
  have code : ∀ K : Int → Prop, K (reoE d o) → ref15_Check_W d fun code =>
      joinW (α := Int) (fun next2 =>
        condW (code == 0)
          (ref14_Check_W o (o.length : Int) fun code3 =>
          next2 code3)
          (next2 code))
        fun code1 =>
        joinW (α := Int) (fun next1 =>
          condW (code1 == 0)
            (condW ((o.length : Int) != (d.Order.length : Int))
              (next1 11)
              (next1 code1))
            (next1 code1))
          K := fun K hK => by
    refine ref15_Check_s ⟨fun c => c = if dgE d ≠ 0 then dgE d else ordE o o.length, condE (fun hz => ref14_Check_s (by rw [if_neg (by simp [hz])])) (fun hz => by rw [if_pos hz]), fun c hc => ⟨fun c2 => c2 = reoE d o, ?_, fun c2 hc2 => by rw [hc2]; exact hK⟩⟩
    subst hc
    unfold reoE
    by_cases h1 : dgE d ≠ 0
    · rw [if_pos h1, if_pos h1]
      exact condE (fun hc => absurd hc h1) (fun _ => rfl)
    · rw [if_neg h1, if_neg h1]
      refine condE (fun hc => condN (fun hl => ?_) (fun hl => ?_)) (fun hc => by rw [if_pos hc])
      · rw [if_neg (by simp [hc]), if_pos (by omega)]
      · rw [if_neg (by simp [hc]), if_neg (by omega)]; exact hc
  refine sReorder_s (fun hc => code _ (condN (fun _ => law17_none_s h) (fun he => absurd he hc))) (fun hz => ?_) (fun hz => code _ (condN (fun hc => absurd hz hc) (fun _ => condB (fun _ => ?_) (fun hc => by cases hc))))
  · have hr := reoE_zero.1 hz
    have := h8 (dgE_zero.2 hr.1)
    omega
  · have hr := reoE_zero.1 hz
    have := h8 (dgE_zero.2 hr.1)
    exact ⟨_, ref17_Reorder_s hr.1 hr.2.1 hr.2.2 rfl, _, base_VD (reo_VD hr.1 hr.2.1 hr.2.2 (by omega)) rfl rfl, h⟩
end Go.Gg
