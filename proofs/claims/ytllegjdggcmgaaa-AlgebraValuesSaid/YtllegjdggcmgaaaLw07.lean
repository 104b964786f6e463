/- Chapter 16: the values of and, or, exclusive or and not. Conditions: none. -/
import Derived.Test.YtllegjdggcmgaaaLw05
import Derived.Test.YtllegjdggcmgaaaWa
/- Chapter 16: the values of and, or, exclusive or and not. Conditions: none. -/
namespace Go.Gg
theorem diagram_Value_s {d : GDiagram} {s : Nat} {Q : Bool → Option Int → Prop} (h : VD d) (hs : s < 2 ^ d.Order.length) (hQ : Q (dF d (stA s)) none) : diagram_Value_W d (s : Int) Q := by
  have hn := h.ord.le
  have hp := dpow24 hn
  have hl := h.le
  refine diagram_Check_s ?_
  rw [dgE_zero.2 h]
  refine condB (fun hc => by cases hc) (fun _ => ⟨fun x => x = false, condT (fun hc => absurd hc (by omega)) (fun _ => ⟨shl_ok (by omega), ?_⟩), ?_⟩)
  · rw [shl_pow]
    exact decide_eq_false (by omega)
  rintro x rfl
  refine condB (fun hc => by cases hc) (fun _ => ?_)
  have r0 := h.root.1
  have r1 := h.root.2
  refine ⟨fun y => ∃ k : Nat, y = (k : Int) ∧ k < 2 + d.Nodes.length ∧ den d.Nodes (stA s) k = dF d (stA s), fun y => y.toNat, ⟨d.Root.toNat, by omega, r1, rfl⟩, ?_⟩
  rintro _ ⟨k, rfl, hk, he⟩
  refine condT (fun h1 => ?_) (fun h1 => ?_)
  · have hx := at_get (N := d.Nodes) (i := k - 2) (by omega)
    obtain ⟨a, b, c, _, _, _⟩ := h.wt.nd _ _ hx
    rw [show ((k - 2 : Nat) : Int) = (k : Int) - 2 by omega] at a b c
    have hst := den_step h.wt (by omega) hk (stA s)
    obtain ⟨v, hv⟩ : ∃ v : Nat, (at' d.Nodes ((k : Int) - 2)).Var = v := ⟨(at' d.Nodes ((k : Int) - 2)).Var.toNat, by omega⟩
    refine ⟨by unfold rng; omega, ⟨by omega, by omega⟩, ⟨by omega, by omega⟩, ?_⟩
    rw [hv] at hst ⊢
    rw [bit_in (by omega)]
    rw [Int.toNat_natCast] at hst
    refine condB (fun h2 => ?_) (fun h2 => ?_)
    · rw [show stA s v = true from h2, cond_true] at hst
      exact ⟨⟨(at' d.Nodes ((k : Int) - 2)).Hi.toNat, by omega, by omega, by rw [← hst, he]⟩, by dsimp only; omega⟩
    · rw [show stA s v = false from h2, cond_false] at hst
      exact ⟨⟨(at' d.Nodes ((k : Int) - 2)).Lo.toNat, by omega, by omega, by rw [← hst, he]⟩, by dsimp only; omega⟩
  · rw [← he] at hQ
    rcases (show k = 0 ∨ k = 1 by omega) with rfl | rfl
    · rw [den_zero] at hQ; exact hQ
    · rw [den_one] at hQ; exact hQ
theorem Value_c {o : List Int} {a : GDiagram} {f : Asg → Bool} {s : Nat} {Q : Bool → Option Int → Prop} (ha : CD o a f) (hs : s < 2 ^ o.length) (hQ : Q (f (stA s)) none) : diagram_Value_W a (s : Int) Q := by
  obtain ⟨va, rfl, rfl⟩ := ha
  exact diagram_Value_s va hs hQ
theorem law16_AlgebraValues_s {a b : GDiagram} {state : Int} {Q : Bool → Prop} (h : Q true) : law16_AlgebraValues_W a b state Q := by
  refine ⟨fun x => x = false → (opE [a, b] = 0 ∧ a.Order.length ≤ 12) ∧ 0 ≤ state ∧ state < ((2 ^ a.Order.length : Nat) : Int), law16_awake_s (condB (fun _ hc => by cases hc) (fun _ => law16_valid_s (by simp) (condB (fun _ hc => by cases hc) (fun hc => by cases hc)) (fun h0 h1 => condB (fun hc => by cases hc) (fun _ => condT (fun _ hc => by cases hc) (fun h2 => ?_))))), fun x hx => condB (fun _ => law16_awake_s h) (fun hx0 => ?_)⟩
  · have h8 : a.Order.length ≤ 8 := h1 0 (by simp)
    refine ⟨shl_ok (by omega), ?_⟩
    rw [shl_pow]
    intro hc
    have := of_decide_eq_false hc
    exact ⟨⟨h0, by omega⟩, by omega, by omega⟩
  obtain ⟨⟨h0, hn⟩, hs0, hs1⟩ := hx hx0
  obtain ⟨va, vb, ob⟩ := opE_two h0
  obtain ⟨s, rfl⟩ : ∃ s : Nat, state = s := ⟨state.toNat, by omega⟩
  have hs : s < 2 ^ a.Order.length := by omega
  have ca := va.cd
  have cb : CD a.Order b (dF b) := ⟨vb, ob, rfl⟩
  refine Value_c ca hs (Value_c cb hs (And_c hn ca cb fun c5 => Or_c hn ca cb fun c7 => Xor_c hn ca cb fun c9 => Not_c hn ca fun c11 => ?_))
  refine bothN rfl (bothN rfl (bothN rfl (bothN rfl (bothN rfl (bothN rfl (Value_c c5 hs (Value_c c7 hs (Value_c c9 hs (Value_c c11 hs ?_)))))))))
  refine condB (fun _ => condB (fun _ => condB (fun _ => condB (fun _ => ?_) (fun hc => by cases hc)) (fun hc => by cases hc)) (fun hc => by cases hc)) (fun hc => by cases hc)
  have g1 : ∀ {x y : Bool} {p q : Prop}, x = y → p → condW (x == y) p q := fun hxy hp => condE (fun _ => hp) (fun hc => absurd hxy hc)
  have g2 : ∀ {x y : Bool}, x = y → Q (x == y) := fun {x y} hxy => by rw [hxy, beq_self_eq_true]; exact h
  refine condB (fun h1 => ?_) (fun h1 => ?_)
  · rw [h1]
    exact g1 (by rw [Bool.true_and]) (g1 (by rw [Bool.true_or]) (g1 rfl (g2 rfl)))
  · rw [h1]
    exact g1 (by rw [Bool.false_and]) (g1 (by rw [Bool.false_or]) (g1 rfl (g2 rfl)))
end Go.Gg
