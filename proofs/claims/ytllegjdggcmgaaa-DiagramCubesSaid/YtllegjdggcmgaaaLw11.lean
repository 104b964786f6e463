/- Chapter 15: Check, the program's and the reference's. Conditions: none. -/
import Derived.Test.YtllegjdggcmgaaaMb
import Derived.Test.YtllegjdggcmgaaaWa
/- Chapter 15: Check, the program's and the reference's. Conditions: none. -/
namespace Go.Gg
theorem law15_large_s {d : GDiagram} {Q : Bool → Prop} (h : ∀ b : Bool, (b = false → d.Order.length ≤ 100 ∧ (d.Nodes.length ≤ 300 ∨ 4096 < d.Nodes.length)) → Q b) : law15_large_W d Q := by
  refine condT (fun hc => h _ (fun hh => by cases hh)) (fun hc => condT (fun h1 => h _ (fun hh => ?_)) (fun h1 => h _ (fun _ => ?_)))
  · have := of_decide_eq_false hh
    omega
  · omega
theorem law15_DiagramChecks_s {d : GDiagram} {Q : Bool → Prop} (h : Q true) : law15_DiagramChecks_W d Q := by
  refine ⟨fun _ => True, law15_awake_s (condB (fun hc => by cases hc) (fun _ => law15_large_s fun _ _ => trivial)), fun x _ => condB (fun _ => law15_awake_s h) (fun _ => ?_)⟩
  refine ⟨errO (dgE d), diagram_Check_s rfl, dgE d, base_Num_s rfl, dgE d, ref15_Check_s rfl, ?_⟩
  show Q (dgE d == dgE d)
  rw [beq_self_eq_true]
  exact h
end Go.Gg
