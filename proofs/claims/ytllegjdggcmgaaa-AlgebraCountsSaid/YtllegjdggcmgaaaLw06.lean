/- Chapter 16: the laws of counts. Conditions: none. -/
import Derived.Test.YtllegjdggcmgaaaLw05
import Derived.Test.YtllegjdggcmgaaaWa
/- Chapter 16: the laws of counts. Conditions: none. -/
namespace Go.Gg
theorem cntN_and_le : ∀ n (f g : Asg → Bool), cntN n (fun σ => f σ && g σ) ≤ cntN n f
  | 0, f, g => by
    simp only [cntN]
    cases f (fun _ => false) <;> cases g (fun _ => false) <;> decide
  | n + 1, f, g => by
    have h1 := cntN_and_le n (fun σ => f (setA σ n false)) (fun σ => g (setA σ n false))
    have h2 := cntN_and_le n (fun σ => f (setA σ n true)) (fun σ => g (setA σ n true))
    simp only [cntN]; omega
theorem cntN_and_eq : ∀ n (f g : Asg → Bool), cntN n (fun σ => f σ && g σ) = cntN n f → ∀ σ : Asg, (∀ v, n ≤ v → σ v = false) → f σ = true → g σ = true
  | 0, f, g, h, σ, hz, hf => by
    have e : σ = fun _ => false := funext fun v => hz v (Nat.zero_le _)
    subst e
    simp only [cntN] at h
    rw [hf] at h
    cases hg : g (fun _ => false)
    · rw [hg] at h; cases h
    · rfl
  | n + 1, f, g, h, σ, hz, hf => by
    have h1 := cntN_and_le n (fun σ => f (setA σ n false)) (fun σ => g (setA σ n false))
    have h2 := cntN_and_le n (fun σ => f (setA σ n true)) (fun σ => g (setA σ n true))
    simp only [cntN] at h
    have key : ∀ b, σ n = b → (cntN n (fun σ => (fun σ => f (setA σ n b)) σ && (fun σ => g (setA σ n b)) σ) = cntN n (fun σ => f (setA σ n b))) → g σ = true := fun b hb he => by
      have := cntN_and_eq n (fun σ => f (setA σ n b)) (fun σ => g (setA σ n b)) he (setA σ n false) (fun v hv => by
        by_cases hvn : v = n
        · subst hvn; exact setA_same
        · rw [setA_ne hvn]; exact hz v (by omega))
      simp only [setA_setA] at this
      rw [show setA σ n b = σ by rw [← hb]; exact setA_id] at this
      exact this hf
    cases hb : σ n
    · exact key _ hb (by simp only; omega)
    · exact key _ hb (by simp only; omega)
theorem law16_AlgebraCounts_s {a b : GDiagram} {Q : Bool → Prop} (h : Q true) : law16_AlgebraCounts_W a b Q := by
  refine ⟨fun x => x = false → opE [a, b] = 0 ∧ a.Order.length ≤ 12, law16_awake_s (condB (fun hc => by cases hc) (fun _ => law16_valid_s (by simp) (fun hc => by cases hc) (fun h0 h1 _ => ⟨h0, Nat.le_trans (h1 0 (by simp)) (by decide)⟩))), fun x hx => condB (fun _ => law16_awake_s h) (fun hx0 => ?_)⟩
  obtain ⟨h0, hn⟩ := hx hx0
  obtain ⟨va, vb, ob⟩ := opE_two h0
  have ca := va.cd
  have cb : CD a.Order b (dF b) := ⟨vb, ob, rfl⟩
  have hO := va.ord
  have p1 := (wc12 hn).1
  refine Or_c hn ca cb fun c1 => And_c hn ca cb fun c3 => Not_c hn ca fun c5 => Count_c ca (Count_c cb (Count_c c1 (Count_c c3 (Count_c c5 (Implies_c hn ca cb fun v hv => ?_)))))
  have k1 := cntN_or a.Order.length (dF a) (dF b)
  have k2 := cntN_not a.Order.length (dF a)
  have l1 := cntN_le a.Order.length (dF a)
  have l2 := cntN_le a.Order.length (dF b)
  refine bothN rfl (bothN rfl (bothN rfl (bothN rfl (bothN rfl (bothN rfl (bothN rfl (bothN rfl (bothN rfl ?_))))))))
  rw [shl_pow]
  refine ⟨by unfold rng; omega, by unfold rng; omega, condE (fun _ => ⟨by have := shl_ok (n := a.Order.length) (by omega); rw [shl_pow] at this; exact this, by unfold rng; omega, condE (fun _ => base_can hO (condE (fun hvd => ?_) (fun hvd => ?_))) (fun hc => absurd (by omega) hc)⟩) (fun hc => absurd (by omega) hc)⟩
  · have e : (v == ((cntN a.Order.length (fun σ => dF a σ && dF b σ) : Int) == (cntN a.Order.length (dF a) : Int))) = true := by
      rw [beq_iff_eq, Bool.eq_iff_iff, hv, beq_iff_eq]
      constructor
      · intro hh
        have : (fun σ => dF a σ && dF b σ) = dF a := by
          funext σ
          cases hf : dF a σ
          · rfl
          · rw [hh σ hf]; rfl
        rw [this]
      · intro hh σ hf
        have hlt := natO_lt hO
        rw [← dep_stA ca.dep hlt σ] at hf
        rw [← dep_stA cb.dep hlt σ]
        refine cntN_and_eq a.Order.length (dF a) (dF b) (by omega) _ (fun v hv => ?_) hf
        rw [stA_bit]
        exact Nat.testBit_lt_two_pow (Nat.lt_of_lt_of_le (bset_lt _) (Nat.pow_le_pow_right (by omega) hv))
    rw [e]
    exact h
  · exfalso
    refine hvd ?_
    rw [Bool.eq_iff_iff, hv, decide_eq_true_eq]
    constructor
    · intro hh
      conv => rhs; rw [ca.eq]
      congr 1
      funext σ
      cases hf : dF a σ
      · rfl
      · rw [hh σ hf]; rfl
    · intro hh σ hf
      have := congrArg dF hh
      rw [c3.fn] at this
      have := congrFun this σ
      rw [hf, Bool.true_and] at this
      exact this
end Go.Gg
