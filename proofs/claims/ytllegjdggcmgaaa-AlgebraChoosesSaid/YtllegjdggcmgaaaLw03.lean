/- Chapter 16: choices and compositions, the program's and the reference's. Conditions: none. -/
import Derived.Test.YtllegjdggcmgaaaLw02
import Derived.Test.YtllegjdggcmgaaaWa
/- Chapter 16: choices and compositions, the program's and the reference's. Conditions: none. -/
namespace Go.Gg
theorem law16_AlgebraChooses_s {c a : GDiagram} {x : GOther} {Q : Bool → Prop} (h : Q true) : law16_AlgebraChooses_W c a x Q := by
  refine ⟨fun x => x = false → largeB c = false, law16_awake_s (condB (fun hc => by cases hc) (fun _ => law16_large_s (condB (fun _ hc => by cases hc) (fun hl => law16_large_s (condB (fun _ hc => by cases hc) (fun _ => law16_large_s fun _ => hl)))))), fun y hx => condB (fun _ => law16_awake_s h) (fun hx0 => ?_)⟩
  have hL := hx hx0
  have hn1 : opE [c, a, x.D] = 0 → c.Order.length ≤ 12 := fun h0 => Nat.le_trans (large_no hL (dgE_zero.2 (opE_three h0).1.1)) (by decide)
  have hn2 : opE [c, a] = 0 → c.Order.length ≤ 12 := fun h0 => Nat.le_trans (large_no hL (dgE_zero.2 (opE_two h0).1)) (by decide)
  -- what the compared results are
  have one : ∀ (K : GDiagram → Option Int → Prop), (∀ r1 r2, (opE [c, a, x.D] ≠ 0 → r1 = noD ∧ r2 = some (opE [c, a, x.D])) → (opE [c, a, x.D] = 0 → r1 = canD c.Order (fun σ => bif dF c σ then dF a σ else dF x.D σ) ∧ r2 = none) → K r1 r2) → algebra_Choose_W c a x.D K := fun K hK =>
    algebra_Choose_s hn1 (fun hc => hK _ _ (fun _ => ⟨rfl, rfl⟩) (fun h0 => absurd h0 hc)) (fun h0 => hK _ _ (fun hc => absurd h0 hc) (fun _ => ⟨rfl, rfl⟩))
  generalize hw : (if opE [c, a] ≠ 0 then opE [c, a] else if x.I < 0 ∨ (c.Order.length : Int) ≤ x.I then 10 else 0) = w
  have two : ∀ (K : GDiagram → Option Int → Prop), (∀ r3 r4, (w ≠ 0 → r3 = noD ∧ r4 = some w) → (w = 0 → r3 = canD c.Order (fun σ => dF c (setA σ x.I.toNat (dF a σ))) ∧ r4 = none) → K r3 r4) → algebra_Compose_W c x.I a K := fun K hK =>
    algebra_Compose_s hn2 (fun hc => hK _ _ (fun _ => by rw [← hw, if_pos hc]; exact ⟨rfl, rfl⟩) (fun h0 => by rw [if_pos hc] at hw; exact absurd (hw.trans h0) hc))
      (fun h0 hi => hK _ _ (fun _ => by rw [← hw, if_neg (by simp [h0]), if_pos hi]; exact ⟨rfl, rfl⟩) (fun hc => by rw [if_neg (by simp [h0]), if_pos hi] at hw; rw [← hw] at hc; cases hc))
      (fun h0 hi => hK _ _ (fun hc => absurd (by rw [← hw, if_neg (by simp [h0]), if_neg (by omega)]) hc) (fun _ => ⟨rfl, rfl⟩))
  refine one _ fun r1 r2 e1 e1' => two _ fun r3 r4 e2 e2' => ⟨_, ref16_Check_s (by simp) rfl, _, ref16_Check_s (by simp) rfl, ?_⟩
  refine ⟨fun t => t = w, condE (fun h0 => condT (fun hi => ?_) (fun hi => condT (fun hi2 => ?_) (fun hi2 => ?_))) (fun h0 => ?_), ?_⟩
  · rw [← hw, if_neg (by simp [h0]), if_pos (.inl hi)]
  · rw [← hw, if_neg (by simp [h0]), if_pos (.inr hi2)]
  · rw [← hw, if_neg (by simp [h0]), if_neg (by omega)]; exact h0
  · rw [← hw, if_pos h0]
  rintro t rfl
  refine ⟨fun _ => True, ?_, fun _ _ => ?_⟩
  · refine condN (fun h1 => ?_) (fun _ => condN (fun h2 => ?_) (fun _ => trivial))
    · obtain ⟨rfl, rfl⟩ := e1 h1
      refine law16_none_s (condB (fun hc => by cases hc) (fun _ => condN (fun h2 => ?_) (fun _ => trivial)))
      obtain ⟨rfl, rfl⟩ := e2 h2
      exact law16_none_s (condB (fun hc => by cases hc) (fun _ => trivial))
    · obtain ⟨rfl, rfl⟩ := e2 h2
      exact law16_none_s (condB (fun hc => by cases hc) (fun _ => trivial))
  · refine ⟨fun _ => True, condE (fun h1 => ?_) (fun _ => trivial), fun _ _ => condN (fun _ => h) (fun h2 => ?_)⟩
    · obtain ⟨rfl, rfl⟩ := e1' h1
      obtain ⟨⟨v1, v2, v3⟩, o1, o2⟩ := opE_three h1
      exact condB (fun hc => by cases hc) (fun _ => ⟨_, ref16_Choose_s v1 v2 v3 o1 o2 rfl, _, base_canE v1.ord rfl rfl, condB (fun hc => by cases hc) (fun _ => trivial)⟩)
    · obtain ⟨rfl, rfl⟩ := e2' h2
      have h3 : opE [c, a] = 0 := by
        by_cases h4 : opE [c, a] = 0
        · exact h4
        · rw [if_pos h4] at hw; omega
      obtain ⟨v1, v2, o1⟩ := opE_two h3
      have hi : ¬ (x.I < 0 ∨ (c.Order.length : Int) ≤ x.I) := fun hc => by rw [if_neg (by simp [h3]), if_pos hc] at hw; omega
      exact condB (fun _ => ⟨_, ref16_Compose_s v1 v2 o1 (by omega) rfl, _, base_canE v1.ord rfl rfl, h⟩) (fun hc => by cases hc)
end Go.Gg
