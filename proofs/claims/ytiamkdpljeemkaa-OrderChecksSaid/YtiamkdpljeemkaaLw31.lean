/- Chapter 14: Check and Natural. Conditions: none. -/
import Derived.Test.YtiamkdpljeemkaaMb
import Derived.Test.YtiamkdpljeemkaaWa
/- Chapter 14: Check and Natural. Conditions: none. -/
namespace Go.Gg
theorem ref14_Natural_s {n : Nat} {Q : List Int → Prop} (hn : n ≤ 24) (hQ : Q (nats n)) : ref14_Natural_W n Q := by
  refine loopUp (n := n) (fun i => ((i : Int), nats i)) (fun y => y.1) 0 (fun i => by first | omega | (dsimp only; omega)) rfl ?_ ?_
  · intro i next hi hn1
    refine condT (fun _ => ⟨by rw [List.length_append, nats_len, List.length_singleton]; omega, by unfold rng; omega, ?_⟩) (fun hc => absurd (show (i : Int) < n by omega) hc)
    rw [nats_succ] at hn1
    simpa using hn1
  · intro next
    exact condT (fun hc => by first | omega | (dsimp only at hc; omega)) (fun _ => hQ)
theorem law14_OrderChecks_s {o : List Int} {vars : Int} {Q : Bool → Prop} (h : Q true) : law14_OrderChecks_W o vars Q := by
  refine ⟨fun x => True, law14_awake_s (condB (fun hc => trivial) (fun _ => trivial)), fun x _ => condB (fun _ => law14_awake_s h) (fun _ => ?_)⟩
  have tail : ∀ (r1 : List Int) (r2 : Option Int), ((vars < 0 ∨ 24 < vars) → r1 = [] ∧ r2 = some 3) → (¬ (vars < 0 ∨ 24 < vars) → r1 = nats vars.toNat ∧ r2 = none) → order_Check_W o vars fun r3 =>
      base_Num_W r3 fun r4 =>
      ref14_Check_W o vars fun r5 =>
      condW (r4 != r5)
        (Q false)
        (joinW (α := Bool) (fun next1 =>
          condW (decide (vars < 0))
            (next1 true)
            (next1 (decide (24 < vars))))
          fun x1 =>
          condW x1
            (condW ((r1.length : Int) == 0)
              (base_Is_W r2 3 fun r6 =>
              Q r6)
              (Q false))
            (condW (Option.isNone r2)
              (ref14_Natural_W vars fun r7 =>
              base_Ints_W r1 r7 fun r8 =>
              Q r8)
              (Q false))) := fun r1 r2 h0 h1 => by
    refine order_Check_s (base_Num_s (ref14_Check_s (condN (fun hc => absurd rfl hc) (fun _ => ⟨fun b => b = decide (vars < 0 ∨ 24 < vars), condT (fun hc => (decide_eq_true (.inl hc)).symm) (fun hc => decide_eq_decide.2 (by omega)), fun b hb => ?_⟩))))
    subst hb
    refine condT (fun hc => ?_) (fun hc => ?_)
    · rw [(h0 hc).1, (h0 hc).2]
      exact condE (fun _ => condB (fun _ => h) (fun hc => by cases hc)) (fun hc => absurd rfl hc)
    · rw [(h1 hc).1, (h1 hc).2]
      obtain ⟨n, rfl⟩ : ∃ n : Nat, vars = n := ⟨vars.toNat, by omega⟩
      rw [Int.toNat_natCast]
      exact condB (fun _ => ref14_Natural_s (by omega) (base_Ints_s (by rw [nats_len]; omega) (by rw [decide_eq_true rfl]; exact h))) (fun hc => by cases hc)
  by_cases hv : vars < 0 ∨ 24 < vars
  · refine ⟨fun b => b = true, condT (fun _ => rfl) (fun hc => decide_eq_true (by omega)), fun b hb => ?_⟩
    subst hb
    exact condB (fun _ => tail _ _ (fun _ => ⟨rfl, rfl⟩) (fun hc => absurd hv hc)) (fun hc => by cases hc)
  · obtain ⟨n, rfl⟩ : ∃ n : Nat, vars = n := ⟨vars.toNat, by omega⟩
    exact Natural_s (by omega) (tail _ _ (fun hc => absurd hc hv) (fun _ => ⟨by rw [Int.toNat_natCast], rfl⟩))
end Go.Gg
