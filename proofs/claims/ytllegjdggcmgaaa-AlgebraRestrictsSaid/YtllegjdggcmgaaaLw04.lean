/- Chapter 16: restrictions and quantifiers, the program's and the reference's. Conditions: none. -/
import Derived.Test.YtllegjdggcmgaaaLw02
import Derived.Test.YtllegjdggcmgaaaWa
/- Chapter 16: restrictions and quantifiers, the program's and the reference's. Conditions: none. -/
namespace Go.Gg
theorem VD_const {o : List Int} (h : Or14 o) {r : Int} (hr : r = 0 ∨ r = 1) : VD ⟨o, [], r⟩ := by
  refine ⟨h, WT.nil, ⟨by show 0 ≤ r; omega, by show r.toNat < 2; omega⟩, by show 0 ≤ 4096; decide, ?_⟩
  show numR [] r.toNat [] = upto 0
  rw [numR_old (.inl (by omega))]
  rfl
theorem ref16_Restrict_s {d : GDiagram} {i : Int} {v : Bool} {Q : GDiagram → Prop} (h : VD d) (hi : 0 ≤ i ∧ i < (d.Order.length : Int)) (hQ : Q (canD d.Order (fun σ => dF d (setA σ i.toNat v)))) : ref16_Restrict_W d i v Q := by
  have hle := h.ord.le
  cases v with
  | true =>
    refine ⟨⟨d.Order, [], 1⟩, ⟨by omega, condB (fun _ => rfl) (fun hc => by cases hc)⟩, _, ref16_Compose_s h (VD_const h.ord (.inr rfl)) rfl hi rfl, ?_⟩
    rw [show dF ⟨d.Order, [], 1⟩ = fun _ => true from dn1]
    exact hQ
  | false =>
    refine ⟨⟨d.Order, [], 0⟩, ⟨by omega, condB (fun hc => by cases hc) (fun _ => rfl)⟩, _, ref16_Compose_s h (VD_const h.ord (.inl rfl)) rfl hi rfl, ?_⟩
    rw [show dF ⟨d.Order, [], 0⟩ = fun _ => false from dn0]
    exact hQ
theorem law16_AlgebraRestricts_s {d : GDiagram} {i mask : Int} {Q : Bool → Prop} (h : Q true) : law16_AlgebraRestricts_W d i mask Q := by
  refine ⟨fun x => x = false → largeB d = false, law16_awake_s (condB (fun hc => by cases hc) (fun _ => law16_large_s id)), fun x hx => condB (fun _ => law16_awake_s h) (fun hx0 => ?_)⟩
  have hL := hx hx0
  have hn : opE [d] = 0 → d.Order.length ≤ 12 := fun h0 => Nat.le_trans (large_no hL (by rwa [opE_one] at h0)) (by decide)
  have hV : opE [d] = 0 → VD d := fun h0 => dgE_zero.1 (by rwa [opE_one] at h0)
  generalize hw : (if opE [d] ≠ 0 then opE [d] else if i < 0 ∨ (d.Order.length : Int) ≤ i then 10 else 0) = w
  have w0 : w = 0 → opE [d] = 0 ∧ 0 ≤ i ∧ i < (d.Order.length : Int) := fun h2 => by
    by_cases h4 : opE [d] = 0
    · by_cases h5 : i < 0 ∨ (d.Order.length : Int) ≤ i
      · rw [if_neg (by simp [h4]), if_pos h5] at hw; omega
      · exact ⟨h4, by omega⟩
    · rw [if_pos h4] at hw; omega
  generalize hu : (if opE [d] ≠ 0 then opE [d] else if mask < 0 ∨ ((2 ^ d.Order.length : Nat) : Int) ≤ mask then 3 else 0) = u
  have u0 : u = 0 → opE [d] = 0 ∧ 0 ≤ mask ∧ mask < ((2 ^ d.Order.length : Nat) : Int) := fun h2 => by
    by_cases h4 : opE [d] = 0
    · by_cases h5 : mask < 0 ∨ ((2 ^ d.Order.length : Nat) : Int) ≤ mask
      · rw [if_neg (by simp [h4]), if_pos h5] at hu; omega
      · exact ⟨h4, by omega⟩
    · rw [if_pos h4] at hu; omega
  have res : ∀ (v : Bool) (K : GDiagram → Option Int → Prop), (∀ r3 r4, (w ≠ 0 → r3 = noD ∧ r4 = some w) → (w = 0 → r3 = canD d.Order (fun σ => dF d (setA σ i.toNat v)) ∧ r4 = none) → K r3 r4) → algebra_Restrict_W d i v K := fun v K hK =>
    algebra_Restrict_s hn (fun hc => hK _ _ (fun _ => by rw [← hw, if_pos hc]; exact ⟨rfl, rfl⟩) (fun h0 => absurd (w0 h0).1 hc))
      (fun h0 hi => hK _ _ (fun _ => by rw [← hw, if_neg (by simp [h0]), if_pos hi]; exact ⟨rfl, rfl⟩) (fun hc => absurd (w0 hc).2 (by omega)))
      (fun h0 hi => hK _ _ (fun hc => absurd (by rw [← hw, if_neg (by simp [h0]), if_neg (by omega)]) hc) (fun _ => ⟨rfl, rfl⟩))
  have exi : ∀ (K : GDiagram → Option Int → Prop), (∀ r3 r4, (u ≠ 0 → r3 = noD ∧ r4 = some u) → (u = 0 → r3 = canD d.Order (quF (fun x y => x || y) (inS mask.toNat) d.Order.length (dF d)) ∧ r4 = none) → K r3 r4) → algebra_Exists_W d mask K := fun K hK =>
    algebra_Exists_s hn (fun hc => hK _ _ (fun _ => by rw [← hu, if_pos hc]; exact ⟨rfl, rfl⟩) (fun h0 => absurd (u0 h0).1 hc))
      (fun h0 hi => hK _ _ (fun _ => by rw [← hu, if_neg (by simp [h0]), if_pos hi]; exact ⟨rfl, rfl⟩) (fun hc => absurd (u0 hc).2 (by omega)))
      (fun h0 hi => hK _ _ (fun hc => absurd (by rw [← hu, if_neg (by simp [h0]), if_neg (by omega)]) hc) (fun _ => ⟨rfl, rfl⟩))
  have all : ∀ (K : GDiagram → Option Int → Prop), (∀ r3 r4, (u ≠ 0 → r3 = noD ∧ r4 = some u) → (u = 0 → r3 = canD d.Order (quF (fun x y => x && y) (inS mask.toNat) d.Order.length (dF d)) ∧ r4 = none) → K r3 r4) → algebra_Forall_W d mask K := fun K hK =>
    algebra_Forall_s hn (fun hc => hK _ _ (fun _ => by rw [← hu, if_pos hc]; exact ⟨rfl, rfl⟩) (fun h0 => absurd (u0 h0).1 hc))
      (fun h0 hi => hK _ _ (fun _ => by rw [← hu, if_neg (by simp [h0]), if_pos hi]; exact ⟨rfl, rfl⟩) (fun hc => absurd (u0 hc).2 (by omega)))
      (fun h0 hi => hK _ _ (fun hc => absurd (by rw [← hu, if_neg (by simp [h0]), if_neg (by omega)]) hc) (fun _ => ⟨rfl, rfl⟩))
  refine res true _ fun r1 r2 e1 e1' => res false _ fun r3 r4 e2 e2' => exi _ fun r5 r6 e3 e3' => all _ fun r7 r8 e4 e4' => ref15_Check_s ?_
  rw [← opE_one]
  refine ⟨fun t => t = w, condE (fun h0 => condT (fun hi => ?_) (fun hi => condT (fun hi2 => ?_) (fun hi2 => ?_))) (fun h0 => ?_), ?_⟩
  · rw [← hw, if_neg (by simp [h0]), if_pos (.inl hi)]
  · rw [← hw, if_neg (by simp [h0]), if_pos (.inr hi2)]
  · rw [← hw, if_neg (by simp [h0]), if_neg (by omega)]; exact h0
  · rw [← hw, if_pos h0]
  rintro t rfl
  refine ⟨fun t => t = u, condE (fun h0 => condT (fun hi => ?_) (fun hi => ⟨shl_ok (by have := hn h0; omega), ?_⟩)) (fun h0 => ?_), ?_⟩
  · rw [← hu, if_neg (by simp [h0]), if_pos (.inl hi)]
  · rw [shl_pow]
    refine condT (fun hi2 => ?_) (fun hi2 => ?_)
    · rw [← hu, if_neg (by simp [h0]), if_pos (.inr hi2)]
    · rw [← hu, if_neg (by simp [h0]), if_neg (by omega)]; exact h0
  · rw [← hu, if_pos h0]
  rintro t rfl
  have no2 : ∀ {K : Prop}, t ≠ 0 → K → law16_none_W r5 r6 t (fun r17 => condW (!r17) (Q false) (law16_none_W r7 r8 t fun r18 => condW (!r18) (Q false) K)) := fun {K} h2 hK => by
    obtain ⟨rfl, rfl⟩ := e3 h2
    obtain ⟨rfl, rfl⟩ := e4 h2
    exact law16_none_s (condB (fun hc => by cases hc) (fun _ => law16_none_s (condB (fun hc => by cases hc) (fun _ => hK))))
  refine ⟨fun _ => True, condN (fun h1 => ?_) (fun _ => condN (fun h2 => no2 h2 trivial) (fun _ => trivial)), fun _ _ => ?_⟩
  · obtain ⟨rfl, rfl⟩ := e1 h1
    obtain ⟨rfl, rfl⟩ := e2 h1
    exact law16_none_s (condB (fun hc => by cases hc) (fun _ => law16_none_s (condB (fun hc => by cases hc) (fun _ => condN (fun h2 => no2 h2 trivial) (fun _ => trivial)))))
  · refine ⟨fun _ => True, condE (fun h1 => ?_) (fun _ => trivial), fun _ _ => condN (fun _ => h) (fun h2 => ?_)⟩
    · obtain ⟨rfl, rfl⟩ := e1' h1
      obtain ⟨rfl, rfl⟩ := e2' h1
      obtain ⟨h3, hi⟩ := w0 h1
      have v1 := hV h3
      exact condB (fun hc => by cases hc) (fun _ => condB (fun hc => by cases hc) (fun _ => ⟨_, ref16_Restrict_s v1 hi rfl, _, base_canE v1.ord rfl rfl, condB (fun hc => by cases hc) (fun _ => ⟨_, ref16_Restrict_s v1 hi rfl, _, base_canE v1.ord rfl rfl, condB (fun hc => by cases hc) (fun _ => trivial)⟩)⟩))
    · obtain ⟨rfl, rfl⟩ := e3' h2
      obtain ⟨rfl, rfl⟩ := e4' h2
      obtain ⟨h3, hi⟩ := u0 h2
      have v1 := hV h3
      exact condB (fun _ => condB (fun _ => ⟨_, ref16_Quantify_s v1 hi rfl, _, base_canE v1.ord rfl rfl, condB (fun _ => ⟨_, ref16_Quantify_s v1 hi rfl, _, base_canE v1.ord rfl rfl, h⟩) (fun hc => by cases hc)⟩) (fun hc => by cases hc)) (fun hc => by cases hc)
end Go.Gg
