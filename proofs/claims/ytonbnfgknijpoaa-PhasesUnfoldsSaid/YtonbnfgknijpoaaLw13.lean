/- The law PhasesUnfolds, over the formula. Conditions: the arguments' words are words. -/
import Derived.Test.YtonbnfgknijpoaaM46b
import Derived.Test.YtonbnfgknijpoaaWLPhasesUnfolds
namespace Go.Gg
theorem base_Ints_same {a : List Int} {Q : Bool → Prop} (la : a.length ≤ 9223372036854775807) (h : Q true) : base_Ints_W a a Q := by
  refine condN (fun hh => absurd rfl hh) fun _ => scanW (n := a.length) (fun _ => False) la (fun i next hi _ hnx => ⟨⟨by omega, by omega⟩, ⟨by omega, by omega⟩, condN (fun hh => absurd rfl hh) fun _ => hnx id⟩) (fun _ => h)
theorem base_Formula_same {f : GFormula} {Q : Bool → Prop} (lf : f.Nodes.length ≤ 9223372036854775807) (la : ∀ i : Nat, i < f.Nodes.length → (at' f.Nodes (i : Int)).Args.length ≤ 9223372036854775807) (h : Q true) : base_Formula_W f f Q := by
  refine condN (fun hh => absurd rfl hh) fun _ => condN (fun hh => absurd rfl hh) fun _ => condN (fun hh => absurd rfl hh) fun _ => scanW (n := f.Nodes.length) (fun _ => False) lf (fun i next hi _ hnx => ?_) (fun _ => h)
  have hb : (0 : Int) ≤ (i : Int) ∧ (i : Int) < (f.Nodes.length : Int) := ⟨by omega, by omega⟩
  exact ⟨hb, hb, condN (fun hh => absurd rfl hh) fun _ => ⟨hb, hb, condN (fun hh => absurd rfl hh) fun _ => ⟨hb, hb, true, base_Ints_same (la i hi) rfl, condB (fun hh => by cases hh) fun _ => hnx id⟩⟩⟩
theorem atE {α : Type} [Inhabited α] {l : List α} {i : Nat} (hi : i < l.length) : at' l (i : Int) = l[i] := by simp [at', List.getD_eq_getElem?_getD, List.getElem?_eq_getElem hi]
theorem mem_len {m : GMission} (o : OkM m) : ∀ x ∈ unfN m, x.Args.length ≤ 1000 := by
  have hk := o.k6
  have h1 : ∀ i, ∀ x ∈ orsL m.Phases.length i, x.Args.length ≤ 1000 := by
    intro i
    induction i with
    | zero => intro x hx; simp [orsL] at hx
    | succ i ih =>
      intro x hx
      rw [orsL, List.mem_append] at hx
      rcases hx with hx | hx
      · exact ih x hx
      · unfold orR at hx
        obtain ⟨k, hk2, rfl⟩ := List.mem_map.1 hx
        have := List.mem_range.1 hk2
        show (soL _ _ _).length ≤ 1000
        rw [soL_len]; omega
  have h2 : ∀ j, j ≤ m.Phases.length → ∀ x ∈ allN m j, x.Args.length ≤ 1000 := by
    intro j
    induction j with
    | zero => intro _ x hx; exact h1 _ x hx
    | succ j ih =>
      intro hj x hx
      rw [allN, List.mem_append] at hx
      rcases hx with hx | hx
      · exact ih (by omega) x hx
      · unfold phN at hx
        obtain ⟨y, hy, rfl⟩ := List.mem_map.1 hx
        obtain ⟨t, ht, rfl⟩ := List.getElem_of_mem hy
        have := (nodeE_ok ((o.fg j (by omega)).1.node t ht)).len
        simp only [List.length_map]
        rw [atE ht] at this
        omega
  intro x hx
  unfold unfN at hx
  split at hx
  · rw [List.mem_append] at hx
    rcases hx with hx | hx
    · exact h2 _ (Nat.le_refl _) x hx
    · rw [List.mem_singleton] at hx
      subst hx
      show (topL m _).length ≤ 1000
      rw [topL_len]; omega
  · exact h2 _ (Nat.le_refl _) x hx
theorem unfP_Fr {m : GMission} (o : OkM m) : ∀ i, i ≤ m.P.length → ∀ x ∈ unfP m i, Fr x := by
  intro i
  induction i with
  | zero => intro _ x hx; simp [unfP] at hx
  | succ i ih =>
    intro hi x hx
    rw [unfP, List.mem_append] at hx
    rcases hx with hx | hx
    · exact ih (by omega) x hx
    · obtain ⟨t, ht, rfl⟩ := List.getElem_of_mem hx
      have := (o.f i (by omega) t ht).1
      rw [atE ht] at this
      exact this
theorem at_in {α : Type} [Inhabited α] {l : List α} {i : Nat} (hi : i < l.length) : at' l (i : Int) ∈ l := by
  rw [atE hi]; exact List.getElem_mem hi
theorem law46_PhasesUnfolds_s {m : GMission} {Q : Bool → Prop} (w : WrM m) (h : Q true) : law46_PhasesUnfolds_W m Q := by
  refine ⟨fun y => y = false → FrM m, ?_, ?_⟩
  · refine law46_awake_s (condB (fun hh => by cases hh) fun _ => ?_)
    exact law46_large_s w fun b hb => hb
  · intro y hy
    refine condB (fun _ => law46_awake_s h) fun hf => ?_
    have f := hy hf
    have zf : ∀ {K : Bool → Prop}, K true → base_Formula_W (⟨0, [], 0⟩ : GFormula) (⟨0, [], 0⟩ : GFormula) K := fun hK => base_Formula_same (by simp) (fun i hi => by simp at hi) hK
    have zr : ∀ {K : Bool → Prop}, K true → base_Rats_W [] [] K := fun hK => base_Rats_same (by simp) (fun i hi => by simp at hi) hK
    refine phases_Unfold_s w f (fun hne => ?_) (fun he hl => ?_) (fun he hl => ?_)
    · refine ref46_Check_s w f ⟨fun y => y = (misE m, [], (⟨0, [], 0⟩ : GFormula)), condE (fun hh => absurd hh hne) (fun _ => rfl), ?_⟩
      rintro _ rfl
      rw [← errO_ne hne]
      exact base_Num_s (condE (fun _ => zf (condB (fun _ => zr h) (fun hh => by cases hh))) (fun hh => absurd rfl hh))
    · have o := okM w f he
      refine ref46_Check_s w f ⟨fun y => y = (4, [], (⟨0, [], 0⟩ : GFormula)), condE (fun _ => ref46_Unfold_s o (fun _ => rfl) (fun hh => by omega)) (fun hh => absurd he hh), ?_⟩
      rintro _ rfl
      exact base_Num_s (e := 4) (condE (fun _ => zf (condB (fun _ => zr h) (fun hh => by cases hh))) (fun hh => absurd rfl hh))
    · have o := okM w f he
      refine ref46_Check_s w f ⟨fun y => y = (0, unfP m m.P.length, unfF m), condE (fun _ => ref46_Unfold_s o (fun hh => by omega) (fun _ => rfl)) (fun hh => absurd he hh), ?_⟩
      rintro _ rfl
      refine base_Num_s (e := 0) (condE (fun _ => ?_) (fun hh => absurd rfl hh))
      refine base_Formula_same (show (unfN m).length ≤ _ by omega) (fun i hi => Nat.le_trans (mem_len o _ (at_in hi)) (by omega)) (condB (fun _ => ?_) (fun hh => by cases hh))
      have hp := o.n24
      refine base_Rats_same (by rw [o.unfP_len _ (Nat.le_refl _)]; omega) (fun i hi => ?_) h
      have := unfP_Fr o _ (Nat.le_refl _) _ (at_in hi)
      exact ⟨Nat.le_trans this.2.2.1 (by omega), Nat.le_trans this.2.2.2 (by omega)⟩
end Go.Gg
