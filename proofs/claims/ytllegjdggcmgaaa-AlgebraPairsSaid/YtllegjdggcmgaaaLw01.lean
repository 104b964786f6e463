/- Chapter 16: the functions of one diagram, the program's and the reference's. Conditions: none. -/
import Derived.Test.YtllegjdggcmgaaaMb
import Derived.Test.YtllegjdggcmgaaaWa
/- Chapter 16: the functions of one diagram, the program's and the reference's. Conditions: none. -/
namespace Go.Gg
theorem base_Num_e {e : Int} {Q : Int → Prop} (h : Q e) : base_Num_W (some e) Q := condB (fun hc => by cases hc) (fun _ => condB (fun _ => h) (fun hc => by cases hc))
theorem law16_AlgebraSingle_s {d : GDiagram} {Q : Bool → Prop} (h : Q true) : law16_AlgebraSingle_W d Q := by
  refine ⟨fun x => x = false → largeB d = false, law16_awake_s (condB (fun hc => by cases hc) (fun _ => law16_large_s id)), fun x hx => condB (fun _ => law16_awake_s h) (fun hx0 => ?_)⟩
  have hL := hx hx0
  have hn : dgE d = 0 → d.Order.length ≤ 12 := fun h0 => Nat.le_trans (large_no hL h0) (by decide)
  by_cases h0 : dgE d = 0
  · have hV := dgE_zero.1 h0
    have ho := opE_one' hV
    refine algebra_Not_s (fun _ => hn h0) (fun hc => absurd ho hc) (fun _ => algebra_Count_s (fun hc => absurd h0 hc) (fun _ => ?_))
    have hE : base_Diagram_W (canD d.Order fun σ => !dF d σ) (canD d.Order fun σ => !dF d σ) (fun x => x = true) := base_canE hV.ord rfl rfl
    refine algebra_Least_s hn (fun hc => absurd h0 hc) (fun _ hno => ?_) (fun _ m hm => ?_)
    · refine ref15_Check_s ?_
      rw [h0]
      refine condN (fun hc => absurd rfl hc) (fun _ => ref16_Least_s hV (fun _ => ?_) (fun m' hm' => ?_))
      · exact condB (fun _ => condB (fun _ => condB (fun _ => ⟨_, ref16_Not_s hV rfl, _, hE, condB (fun _ => ⟨_, ref16_Count_s hV rfl, condE (fun _ => condE (fun _ => h) (fun hc => absurd rfl hc)) (fun hc => absurd rfl hc)⟩) (fun hc => by cases hc)⟩) (fun hc => by cases hc)) (fun hc => by cases hc)) (fun hc => by cases hc)
      · have := hno m' hm'.lt
        rw [hm'.yes] at this; cases this
    · refine ref15_Check_s ?_
      rw [h0]
      refine condN (fun hc => absurd rfl hc) (fun _ => ref16_Least_s hV (fun hno => ?_) (fun m' hm' => ?_))
      · have := hno m hm.lt
        rw [hm.yes] at this; cases this
      · obtain rfl := hm.uniq hm'
        exact condB (fun _ => condB (fun _ => condB (fun _ => ⟨_, ref16_Not_s hV rfl, _, hE, condB (fun _ => ⟨_, ref16_Count_s hV rfl, condE (fun _ => condE (fun _ => h) (fun hc => absurd rfl hc)) (fun hc => absurd rfl hc)⟩) (fun hc => by cases hc)⟩) (fun hc => by cases hc)) (fun hc => by cases hc)) (fun hc => by cases hc)
  · have ho : opE [d] ≠ 0 := by rw [opE_one]; exact h0
    refine algebra_Not_s (fun hc => absurd hc ho) (fun _ => algebra_Count_s (fun _ => algebra_Least_s hn (fun _ => ref15_Check_s (condN (fun _ => ?_) (fun hc => absurd hc h0))) (fun hV => absurd (dgE_zero.2 hV) h0) (fun hV => absurd (dgE_zero.2 hV) h0)) (fun hV => absurd (dgE_zero.2 hV) h0)) (fun hc => absurd hc ho)
    rw [opE_one]
    exact law16_none_s (condB (fun _ => condE (fun _ => condE (fun _ => condB (fun _ => base_Num_e (condE (fun _ => base_Num_e (by show Q (dgE d == dgE d); rw [beq_self_eq_true]; exact h)) (fun hc => absurd rfl hc))) (fun hc => by cases hc)) (fun hc => absurd rfl hc)) (fun hc => absurd rfl hc)) (fun hc => by cases hc))
end Go.Gg
