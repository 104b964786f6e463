/- Chapter 15: the support of a diagram consists of the events on which the function depends. Conditions: none. -/
import Derived.Test.YtiamkdpljeemkaaLw16
import Derived.Test.YtiamkdpljeemkaaWa
/- Chapter 15: the support of a diagram consists of the events on which the function depends. Conditions: none. -/
namespace Go.Gg
theorem law15_DiagramDepends_s {f : GFormula} {o : List Int} {Q : Bool → Prop} (ht : rng f.Top) (h : Q true) : law15_DiagramDepends_W f o Q := by
  refine ⟨fun x => x = false → (buildE f o = 0 ∧ f.Vars ≤ 10), law15_awake_s (condB (fun hc => by cases hc) (fun _ => law15_valid_s ht (fun hc => by cases hc) (fun hz h10 _ => ⟨hz, h10⟩))), fun x hx => condB (fun _ => law15_awake_s h) (fun hx0 => ?_)⟩
  obtain ⟨hz, h10⟩ := hx hx0
  obtain ⟨g, hO, hl, h12, hd, hV, hE⟩ := valid_of hz h10
  have v0 := g.v0
  refine diagram_Build_s ht (fun hc => absurd hz hc) (fun _ => by omega) (fun _ => ?_)
  refine dSupport_s (fun hc => absurd hE hc) (fun _ => dSize_s (fun hc => absurd hE hc) (fun _ => dLevels_s (fun hc => absurd hE hc) (fun _ => truth_Relevant_s g (by omega) (fun m hm hI => ?_))))
  have em : supM (canD o (fF f)).Nodes = m := by
    have hsl := sup_lt hO hd
    refine Nat.eq_of_testBit_eq fun i => ?_
    by_cases hi : i < f.Vars.toNat
    · rw [Bool.eq_iff_iff, sup_iff hO hd, hI i hi]
    · rw [Nat.testBit_lt_two_pow (Nat.lt_of_lt_of_le hsl (Nat.pow_le_pow_right (by omega) (by omega))), Nat.testBit_lt_two_pow (Nat.lt_of_lt_of_le hm (Nat.pow_le_pow_right (by omega) (by omega)))]
  refine condB (fun hc => by cases hc) (fun _ => condB (fun hc => by cases hc) (fun _ => condB (fun hc => by cases hc) (fun _ => condB (fun hc => by cases hc) (fun _ => condB (fun hc => by cases hc) (fun _ => condN (fun hc => absurd (by rw [em]) hc) (fun _ => ?_))))))
  have hvar : ∀ x ∈ (canD o (fF f)).Nodes, levO o x.Var.toNat < o.length := fun x hx => by
    obtain ⟨i, hi⟩ := List.mem_iff_getElem?.1 hx
    have := (hV.wt.nd i x hi).var
    exact (hO.at_lev (by have e : (canD o (fF f)).Order = o := rfl; rw [e] at this; omega)).1
  have hN := hV.le
  have hs := sumK_lev (o := o) _ hvar
  have eO : (canD o (fF f)).Order = o := rfl
  rw [eO]
  have hll : (levN o (canD o (fF f)).Nodes).length = o.length := levN_len
  refine loopUp (n := o.length) (fun i => (sumK (levN o (canD o (fF f)).Nodes) i, (i : Int))) (fun y => y.2) 0 (fun i => by dsimp only; omega) rfl (fun i next hi hn1 => ?_) (fun next => ?_)
  · have h1 := sumK_le (o := o) (N := (canD o (fF f)).Nodes) i (by omega)
    have h2 := levN_le (o := o) (N := (canD o (fF f)).Nodes) hi
    have h3 : (i : Int) * ((canD o (fF f)).Nodes.length : Int) ≤ 24 * 4096 := Int.mul_le_mul (by omega) (by omega) (by omega) (by omega)
    exact condT (fun _ => ⟨by omega, by unfold rng; omega, by unfold rng; omega, hn1⟩) (fun hc => absurd (show (i : Int) < _ by omega) hc)
  · refine condT (fun hc => absurd hc (by omega)) (fun _ => condE (fun _ => ?_) (fun hc => absurd hs hc))
    rw [hll, show ((o.length : Int) == f.Vars) = true by simp only [beq_iff_eq]; omega]
    exact h
end Go.Gg
