/- Chapter 17: Swap and Move. Conditions: none. -/
import Derived.Test.YtiamkdpljeemkaaMb
import Derived.Test.YtiamkdpljeemkaaWa
/- Chapter 17: Swap and Move. Conditions: none. -/
namespace Go.Gg
theorem Swap_s2 {d : GDiagram} {l : Int} {Q : GDiagram → Option Int → Prop} (h12 : swpE d l = 0 → d.Order.length ≤ 12) (h : ∀ A ea, (swpE d l ≠ 0 → A = noD ∧ ea = some (swpE d l)) → (swpE d l = 0 → A = reoD d (exO d.Order l) ∧ ea = none) → Q A ea) : sifting_Swap_W d l Q :=
  Swap_s (fun h1 => h _ _ (fun _ => ⟨rfl, rfl⟩) (fun hc => absurd hc h1)) h12 (fun h1 => h _ _ (fun hc => absurd h1 hc) (fun _ => ⟨rfl, rfl⟩))
theorem Move_s2 {d : GDiagram} {v p : Int} {Q : GDiagram → Option Int → Prop} (h12 : mvE d v p = 0 → d.Order.length ≤ 12) (h : ∀ A ea, (mvE d v p ≠ 0 → A = noD ∧ ea = some (mvE d v p)) → (mvE d v p = 0 → A = reoD d (movO d.Order v p) ∧ ea = none) → Q A ea) : sifting_Move_W d v p Q :=
  Move_s (fun h1 => h _ _ (fun _ => ⟨rfl, rfl⟩) (fun hc => absurd hc h1)) h12 (fun h1 => h _ _ (fun hc => absurd h1 hc) (fun _ => ⟨rfl, rfl⟩))
theorem law17_SiftingMoves_s {d : GDiagram} {event place : Int} {Q : Bool → Prop} (h : Q true) : law17_SiftingMoves_W d event place Q := by
  refine ⟨fun x => x = false → dgE d = 0 → (d.Order.length : Int) ≤ 8, law17_awake_s (condB (fun hc => by cases hc) (fun _ => law17_large_s (fun hb hz => largeM_no hb hz))), fun x hx => condB (fun _ => law17_awake_s h) (fun hx0 => ?_)⟩
  have h8 := hx hx0
  have h12 : dgE d = 0 → d.Order.length ≤ 12 := fun hz => by have := h8 hz; omega
  have tail : ∀ (A B : GDiagram) (ea eb : Option Int), (swpE d place ≠ 0 → A = noD ∧ ea = some (swpE d place)) → (swpE d place = 0 → A = reoD d (exO d.Order place) ∧ ea = none) → (mvE d event place ≠ 0 → B = noD ∧ eb = some (mvE d event place)) → (mvE d event place = 0 → B = reoD d (movO d.Order event place) ∧ eb = none) →
      joinW (α := Unit) (fun next2 =>
            condW (swpE d place != 0)
              (law17_none_W A ea (swpE d place) fun r9 =>
              condW (!r9)
                (Q false)
                (condW (mvE d event place != 0)
                  (law17_none_W B eb (mvE d event place) fun r10 =>
                  condW (!r10)
                    (Q false)
                    (next2 ()))
                  (next2 ())))
              (condW (mvE d event place != 0)
                (law17_none_W B eb (mvE d event place) fun r11 =>
                condW (!r11)
                  (Q false)
                  (next2 ()))
                (next2 ())))
            fun _ =>
            joinW (α := Unit) (fun next1 =>
              condW (swpE d place == 0)
                (condW (Option.isSome ea)
                  (Q false)
                  (detW (ref17_Swap_W d place) fun r7 =>
                  detW (base_Diagram_W A r7) fun r8 =>
                  condW (!r8)
                    (Q false)
                    (next1 ())))
                (next1 ()))
              fun _ =>
              condW (mvE d event place != 0)
                (Q true)
                (condW (Option.isNone eb)
                  (detW (ref17_Move_W d event place) fun r5 =>
                  detW (base_Diagram_W B r5) fun r6 =>
                  Q r6)
                  (Q false)) := fun A B ea eb hA0 hA1 hB0 hB1 => by
    have two : ∀ next2 : Unit → Prop, next2 () → condW (mvE d event place != 0)
                (law17_none_W B eb (mvE d event place) fun r11 =>
                condW (!r11)
                  (Q false)
                  (next2 ()))
                (next2 ()) := fun next2 hn => condN (fun hc => by rw [(hB0 hc).1, (hB0 hc).2]; exact law17_none_s (condB (fun hc => by cases hc) (fun _ => hn))) (fun _ => hn)
    refine ⟨fun _ => True, condN (fun hc => by rw [(hA0 hc).1, (hA0 hc).2]; exact law17_none_s (condB (fun hc => by cases hc) (fun _ => two (fun _ => True) trivial))) (fun _ => two (fun _ => True) trivial), fun _ _ => ⟨fun _ => True, condE (fun hz => ?_) (fun _ => trivial), fun _ _ => condN (fun _ => h) (fun hz => ?_)⟩⟩
    · obtain ⟨hd, a, b⟩ := swpE_zero.1 hz
      have hx := ex_reo hd a b
      rw [(hA1 hz).1, (hA1 hz).2]
      exact condB (fun hc => by cases hc) (fun _ => ⟨_, ref17_Swap_s hz rfl, _, base_VD (reo_VD hd hx.1 hx.2 (by have := h12 (dgE_zero.2 hd); omega)) rfl rfl, condB (fun hc => by cases hc) (fun _ => trivial)⟩)
    · obtain ⟨hd, ⟨v0, v1⟩, p0, p1⟩ := mvE_zero.1 hz
      rw [(hB1 hz).1, (hB1 hz).2]
      have hn := h12 (dgE_zero.2 hd)
      obtain ⟨v, rfl⟩ : ∃ k : Nat, event = k := ⟨event.toNat, by omega⟩
      obtain ⟨p, rfl⟩ : ∃ k : Nat, place = k := ⟨place.toNat, by omega⟩
      have hvl : v < d.Order.length := by omega
      exact condB (fun _ => ⟨_, ref17_Move_s hd hvl (by omega) rfl, _, base_VD (reo_VD hd (movO_ord hd.ord hvl) (movO_len hd.ord hvl) (by rw [movO_len hd.ord hvl]; exact hn)) rfl rfl, h⟩) (fun hc => by cases hc)
  have e12 : swpE d place = 0 → d.Order.length ≤ 12 := fun hz => h12 (dgE_zero.2 (swpE_zero.1 hz).1)
  have m12 : mvE d event place = 0 → d.Order.length ≤ 12 := fun hz => h12 (dgE_zero.2 (mvE_zero.1 hz).1)
  refine Swap_s2 e12 fun A ea hA0 hA1 => Move_s2 m12 fun B eb hB0 hB1 => ref15_Check_s (d := d) ⟨fun c => c = swpE d place, condE (fun hz => condT (fun hc => by unfold swpE; rw [if_neg (by simp [hz]), if_pos (.inl hc)]) (fun hc => ⟨by have := (dgE_zero.1 hz).ord.le; unfold rng; omega, condT (fun hc2 => by unfold swpE; rw [if_neg (by simp [hz]), if_pos (.inr hc2)]) (fun hc2 => by unfold swpE; rw [if_neg (by simp [hz]), if_neg (by omega)]; exact hz)⟩)) (fun hz => by unfold swpE; rw [if_pos hz]), fun c hc => by
      subst hc
      refine ⟨fun c => c = mvE d event place, condE (fun hz => condT (fun hc => ?_) (fun hc => condT (fun hc2 => ?_) (fun hc2 => condT (fun hc3 => ?_) (fun hc3 => condT (fun hc4 => ?_) (fun hc4 => ?_))))) (fun hz => by unfold mvE; rw [if_pos hz]), fun c hc => by subst hc; exact tail A B ea eb hA0 hA1 hB0 hB1⟩
      · unfold mvE; rw [if_neg (by simp [hz]), if_pos (by omega)]
      · unfold mvE; rw [if_neg (by simp [hz]), if_pos (by omega)]
      · unfold mvE; rw [if_neg (by simp [hz]), if_pos (by omega)]
      · unfold mvE; rw [if_neg (by simp [hz]), if_pos (by omega)]
      · unfold mvE; rw [if_neg (by simp [hz]), if_neg (by omega)]; exact hz⟩
end Go.Gg
