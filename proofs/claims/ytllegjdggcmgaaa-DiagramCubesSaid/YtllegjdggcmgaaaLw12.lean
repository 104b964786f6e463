/- Chapter 15: Build, the program's and the reference's. Conditions: none. -/
import Derived.Test.YtllegjdggcmgaaaMb
import Derived.Test.YtllegjdggcmgaaaWa
/- Chapter 15: Build, the program's and the reference's. Conditions: none. -/
namespace Go.Gg
theorem base_Num_e {e : Int} {Q : Int → Prop} (h : Q e) : base_Num_W (some e) Q := condB (fun hc => by cases hc) (fun _ => condB (fun _ => h) (fun hc => by cases hc))
theorem base_noD {Q : Bool → Prop} (h : Q true) : base_Diagram_W noD (⟨[], [], 0⟩ : GDiagram) Q := base_Diagram_s (by show 0 ≤ _; omega) (by show 0 ≤ _; omega) (by show Q (decide (noD = noD)); rw [decide_eq_true rfl]; exact h)
theorem ref15_Formula_s {f : GFormula} {Q : List Bool → Prop} (g : FG f) (hQ : Q (tabF f.Vars.toNat (fF f))) : ref15_Formula_W f Q := by
  have v0 := g.v0; have v24 := g.v24
  obtain ⟨n, hn⟩ : ∃ n : Nat, f.Vars = n := ⟨f.Vars.toNat, by omega⟩
  rw [hn, Int.toNat_natCast] at hQ
  have hp := dpow24 (n := n) (by omega)
  unfold ref15_Formula_W
  rw [hn]
  refine loopUp (n := 2 ^ n) (fun i => ((i : Int), (List.range i).map fun s => fF f (stA s))) (fun y => y.1) 0 (fun i => by dsimp only; omega) rfl (fun i next hi hn' => ?_) (fun next => ?_)
  · refine ⟨shl_ok (by omega), ?_⟩
    rw [shl_pow]
    refine condT (fun _ => ref08_Value_s g (by omega) ⟨by simp; omega, by unfold rng; omega, ?_⟩) (fun hc => absurd (show (i : Int) < ((2 ^ n : Nat) : Int) by omega) hc)
    rw [tabF_take, fF_st (by rw [hn]; exact hi)] at hn'
    exact hn'
  · refine ⟨shl_ok (by omega), ?_⟩
    rw [shl_pow]
    exact condT (fun hc => absurd hc (by omega)) (fun _ => hQ)
theorem ref15_Build_s {f : GFormula} {o : List Int} {Q : GDiagram → Prop} (hz : buildE f o = 0) (hQ : Q (canD o (fF f))) : ref15_Build_W f o Q := by
  obtain ⟨g, hO, hl⟩ := buildE_zero.1 hz
  refine ref15_Formula_s g ?_
  rw [show f.Vars.toNat = o.length by omega]
  exact ref15_Of_s hO (fF_dep hO hl) hQ
theorem law15_DiagramBuilds_s {f : GFormula} {o : List Int} {Q : Bool → Prop} (ht : rng f.Top) (h : Q true) : law15_DiagramBuilds_W f o Q := by
  refine ⟨fun _ => True, law15_awake_s (condB (fun hc => by cases hc) (fun _ => trivial)), fun x _ => condB (fun _ => law15_awake_s h) (fun _ => law15_problem_s ht ?_)⟩
  refine ⟨fun _ => buildE f o = 0 → f.Vars ≤ 8, condE (fun hz => condT (fun _ => h) (fun h8 _ => by omega)) (fun hne hz => absurd hz hne), fun _ hv => ?_⟩
  refine diagram_Build_s ht (fun hc => condN (fun _ => base_noD (condB (fun _ => base_Num_e (by rw [beq_self_eq_true]; exact h)) (fun hh => by cases hh))) (fun hz => absurd hz hc)) (fun hz => by have := hv hz; omega) (fun hz => condN (fun hc => absurd hz hc) (fun _ => condB (fun _ => ?_) (fun hh => by cases hh)))
  exact ⟨_, ref15_Build_s hz rfl, _, base_canE (buildE_zero.1 hz).2.1 rfl rfl, h⟩
end Go.Gg
