/- Chapter 15: Cubes, the program's and the reference's. Conditions: none. -/
import Derived.Test.YtllegjdggcmgaaaMb
import Derived.Test.YtllegjdggcmgaaaLw12
import Derived.Test.YtllegjdggcmgaaaLw11
import Derived.Test.YtllegjdggcmgaaaWa
/- Chapter 15: Cubes, the program's and the reference's. Conditions: none. -/
namespace Go.Gg
theorem law15_DiagramCubes_s {d : GDiagram} {Q : Bool → Prop} (h : Q true) : law15_DiagramCubes_W d Q := by
  refine ⟨fun _ => True, law15_awake_s (condB (fun hc => by cases hc) (fun _ => law15_large_s fun _ _ => trivial)), fun x _ => condB (fun _ => law15_awake_s h) (fun _ => ?_)⟩
  have q : ∀ e : Int, Q (e == e) := fun e => by rw [beq_self_eq_true]; exact h
  refine dCubes_s (fun hc => ref15_Check_s ?_) (fun hV hl => ref15_Check_s ?_) (fun hV hl => ref15_Check_s ?_)
  · refine ⟨fun y => y = (dgE d, []), condE (fun hz => absurd hz hc) (fun _ => rfl), ?_⟩
    rintro _ rfl
    exact condN (fun _ => condE (fun _ => base_Num_e (q _)) (fun hh => absurd rfl hh)) (fun hz => absurd hz hc)
  · have hz := dgE_zero.2 hV
    refine ⟨fun y => y = (0, cubD d), condE (fun _ => ref15_Cubes_s hV (fun _ => rfl) (fun hc => by omega)) (fun hc => absurd hz hc), ?_⟩
    rintro _ rfl
    obtain ⟨p1, p2⟩ := cubD_ok hV
    refine condN (fun hc => absurd rfl hc) (fun _ => condB (fun hc => by cases hc) (fun _ => base_Cubes_s (by omega) ?_))
    rw [decide_eq_true rfl]
    exact condB (fun hc => by cases hc) (fun _ => condT (fun _ => h) (fun _ => cube_Disjoint_s p1 p2 hV.ord.le hl (condB (fun _ => h) (fun hc => by cases hc))))
  · have hz := dgE_zero.2 hV
    refine ⟨fun y => y = (4, []), condE (fun _ => ref15_Cubes_s hV (fun hc => by omega) (fun _ => rfl)) (fun hc => absurd hz hc), ?_⟩
    rintro _ rfl
    exact condN (fun _ => condE (fun _ => base_Num_e (q _)) (fun hh => absurd rfl hh)) (fun hc => by cases hc)
end Go.Gg
