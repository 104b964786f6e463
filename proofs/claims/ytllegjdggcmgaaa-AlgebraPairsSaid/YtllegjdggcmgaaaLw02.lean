/- Chapter 16: the functions of two diagrams, the program's and the reference's. Conditions: none. -/
import Derived.Test.YtllegjdggcmgaaaLw01
import Derived.Test.YtllegjdggcmgaaaWa
/- Chapter 16: the functions of two diagrams, the program's and the reference's. Conditions: none. -/
namespace Go.Gg
theorem law16_AlgebraPairs_s {a b : GDiagram} {Q : Bool → Prop} (h : Q true) : law16_AlgebraPairs_W a b Q := by
  refine ⟨fun x => x = false → largeB a = false, law16_awake_s (condB (fun hc => by cases hc) (fun _ => law16_large_s (condB (fun _ hc => by cases hc) (fun hl => law16_large_s fun _ => hl)))), fun x hx => condB (fun _ => law16_awake_s h) (fun hx0 => ?_)⟩
  have hL := hx hx0
  by_cases h0 : opE [a, b] = 0
  · obtain ⟨va, vb, ho⟩ := opE_two h0
    have hn : opE [a, b] = 0 → a.Order.length ≤ 12 := fun _ => Nat.le_trans (large_no hL (dgE_zero.2 va)) (by decide)
    refine algebra_And_s hn (fun hc => absurd h0 hc) (fun _ => algebra_Or_s hn (fun hc => absurd h0 hc) (fun _ => algebra_Xor_s hn (fun hc => absurd h0 hc) (fun _ => algebra_Implies_s hn (fun hc => absurd h0 hc) (fun _ v hv => ref16_Check_s (by simp) ?_))))
    rw [h0]
    refine condN (fun hc => absurd rfl hc) (fun _ => condB (fun hc => by cases hc) (fun _ => condB (fun hc => by cases hc) (fun _ => condB (fun hc => by cases hc) (fun _ => condB (fun hc => by cases hc) (fun _ => ref16_Implies_s va vb ho (fun w hw => ?_))))))
    have hvw : v = w := by rw [Bool.eq_iff_iff, hv, hw]
    refine condN (fun hc => absurd hvw hc) (fun _ => ⟨_, ref16_Apply_s va vb ho rfl, _, base_canE va.ord rfl rfl, condB (fun _ => ⟨_, ref16_Apply_s va vb ho rfl, _, base_canE va.ord rfl rfl, condB (fun _ => ⟨_, ref16_Apply_s va vb ho rfl, _, base_canE va.ord rfl rfl, h⟩) (fun hc => by cases hc)⟩) (fun hc => by cases hc)⟩)
  · have hn : opE [a, b] = 0 → a.Order.length ≤ 12 := fun hc => absurd hc h0
    refine algebra_And_s hn (fun _ => algebra_Or_s hn (fun _ => algebra_Xor_s hn (fun _ => algebra_Implies_s hn (fun _ => ref16_Check_s (by simp) (condN (fun _ => ?_) (fun hc => absurd hc h0))) (fun hc => absurd hc h0)) (fun hc => absurd hc h0)) (fun hc => absurd hc h0)) (fun hc => absurd hc h0)
    exact law16_none_s (condB (fun _ => law16_none_s (condB (fun _ => law16_none_s (condB (fun _ => condB (fun _ => base_Num_e (by show Q (opE [a, b] == opE [a, b]); rw [beq_self_eq_true]; exact h)) (fun hc => by cases hc)) (fun hc => by cases hc))) (fun hc => by cases hc))) (fun hc => by cases hc))
end Go.Gg
