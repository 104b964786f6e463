/- Chapter 16: a diagram by its two restrictions. Conditions: none. -/
import Derived.Test.YtllegjdggcmgaaaLw05
import Derived.Test.YtllegjdggcmgaaaWa
/- Chapter 16: a diagram by its two restrictions. Conditions: none. -/
namespace Go.Gg
theorem VD_event {o : List Int} (h : Or14 o) {i : Nat} (hi : i < o.length) : CD o ⟨o, [⟨(i : Int), 0, 1⟩], 2⟩ (fun σ => σ i) := by
  have hlt := (h.at_lev hi).1
  have w : WT o.length (levO o) ([] ++ [(⟨(i : Int), 0, 1⟩ : GDNode)]) := WT.nil.snoc ⟨by simp, by simp only; omega⟩ ⟨by simp, by simp⟩ ⟨by simp, by simp⟩ (by simp) (by rw [lvl_lt (by simp)]; simpa using hlt) (by rw [lvl_lt (by simp)]; simpa using hlt) (by simp)
  rw [List.nil_append] at w
  have hx : ([(⟨(i : Int), 0, 1⟩ : GDNode)] : List GDNode)[0]? = some ⟨(i : Int), 0, 1⟩ := rfl
  refine ⟨⟨h, w, ⟨by show (0 : Int) ≤ 2; decide, by show 2 < 3; decide⟩, by show 1 ≤ 4096; decide, ?_⟩, rfl, ?_⟩
  · show numR _ (2 + 0) [] = upto 1
    rw [numR_node w.kids' hx (by simp), numR_old (.inl (by simp)), numR_old (.inl (by simp))]
    rfl
  · funext σ
    have e : dF ⟨o, [(⟨(i : Int), 0, 1⟩ : GDNode)], 2⟩ σ = den [(⟨(i : Int), 0, 1⟩ : GDNode)] σ (2 + 0) := rfl
    rw [e, w.den_at hx]
    simp only [Int.toNat_natCast]
    rw [show (1 : Int).toNat = 1 from rfl, show (0 : Int).toNat = 0 from rfl, den_one, den_zero]
    cases σ i <;> rfl
theorem diagram_Event_s {o : List Int} {i : Nat} {Q : GDiagram → Option Int → Prop} (h : Or14 o) (hi : i < o.length) (hQ : Q ⟨o, [⟨(i : Int), 0, 1⟩], 2⟩ none) : diagram_Event_W (i : Int) o Q := by
  have hle := h.le
  refine order_Check_s ?_
  rw [ordE_of h]
  refine condB (fun hc => by cases hc) (fun _ => ⟨fun x => x = false, condT (fun hc => absurd hc (by omega)) (fun _ => decide_eq_false (by omega)), ?_⟩)
  rintro x rfl
  refine condB (fun hc => by cases hc) (fun _ isnil hnil => condB (fun hb => ?_) (fun _ => ⟨by rw [List.nil_append]; omega, by rw [List.nil_append]; exact hQ⟩))
  rw [hnil hb] at hQ
  exact hQ
theorem quF_below {g : Bool → Bool → Bool} {p : Nat → Bool} {f : Asg → Bool} : ∀ k, (∀ v, v < k → p v = false) → quF g p k f = f
  | 0, _ => rfl
  | k + 1, h => by
    funext σ
    simp only [quF]
    rw [h k (by omega), cond_false, quF_below k fun v hv => h v (by omega)]
theorem quF_one {g : Bool → Bool → Bool} {p : Nat → Bool} {f : Asg → Bool} {i : Nat} (h : ∀ v, p v = decide (v = i)) : ∀ k, i < k → ∀ σ, quF g p k f σ = g (f (setA σ i false)) (f (setA σ i true))
  | 0, hk, _ => absurd hk (by omega)
  | k + 1, hk, σ => by
    simp only [quF]
    by_cases hi : i = k
    · subst hi
      rw [h i, decide_eq_true rfl, cond_true, quF_below i fun v hv => by rw [h v]; exact decide_eq_false (by omega)]
    · rw [h k, decide_eq_false (fun hc => hi hc.symm), cond_false]
      exact quF_one h k (by omega) σ
theorem inS_pow {i v : Nat} : inS (2 ^ i) v = decide (v = i) := by
  rw [inS_bit]
  by_cases h : v = i
  · subst h; rw [Nat.testBit_two_pow_self, decide_eq_true rfl]
  · rw [Nat.testBit_two_pow_of_ne (fun hc => h hc.symm), decide_eq_false h]
theorem law16_AlgebraExpands_s {d : GDiagram} {i : Int} {Q : Bool → Prop} (h : Q true) : law16_AlgebraExpands_W d i Q := by
  refine ⟨fun x => x = false → (opE [d] = 0 ∧ d.Order.length ≤ 12) ∧ 0 ≤ i ∧ i < (d.Order.length : Int), law16_awake_s (condB (fun _ hc => by cases hc) (fun _ => law16_valid_s (by simp) (condB (fun _ hc => by cases hc) (fun hc => by cases hc)) (fun h0 h1 => condB (fun hc => by cases hc) (fun _ => condT (fun _ hc => by cases hc) (fun h2 hc => ?_))))), fun x hx => condB (fun _ => law16_awake_s h) (fun hx0 => ?_)⟩
  · have h8 : d.Order.length ≤ 8 := h1 0 (by simp)
    have := of_decide_eq_false hc
    exact ⟨⟨h0, by omega⟩, by omega, by omega⟩
  obtain ⟨⟨h0, hn⟩, hi⟩ := hx hx0
  have va : VD d := dgE_zero.1 (by rwa [opE_one] at h0)
  have hO := va.ord
  have ca := va.cd
  obtain ⟨e, rfl⟩ : ∃ e : Nat, i = e := ⟨i.toNat, by omega⟩
  have he : e < d.Order.length := by omega
  have ce := VD_event hO he
  have pe : 0 < 2 ^ e := Nat.pow_pos (by omega)
  have pl : 2 ^ e < 2 ^ d.Order.length := Nat.pow_lt_pow_right (by omega) he
  refine diagram_Event_s hO he (Restrict_c hn ca hi fun c3 => Restrict_c hn ca hi fun c5 => Choose_c hn ce c3 c5 fun c7 => ⟨shl_ok (by omega), ?_⟩)
  rw [shl_pow]
  simp only [Int.toNat_natCast] at c3 c5 c7 ⊢
  refine ⟨canD d.Order fun σ => dF d (setA σ e false) || dF d (setA σ e true), none, algebra_Exists_s (fun _ => hn) (fun hc => absurd h0 hc) (fun _ hc => absurd hc (by omega)) (fun _ _ => ⟨?_, rfl⟩), (shl_ok (n := e) (by omega)).imp id (fun hr => by rw [shl_pow] at hr; exact hr), canD d.Order fun σ => dF d (setA σ e false) && dF d (setA σ e true), none, algebra_Forall_s (fun _ => hn) (fun hc => absurd h0 hc) (fun _ hc => absurd hc (by omega)) (fun _ _ => ⟨?_, rfl⟩), Or_c hn c3 c5 fun c13 => And_c hn c3 c5 fun c15 => Compose_c hn ca ce hi fun c17 => ?_⟩
  · congr 1
    funext σ
    exact quF_one (fun v => by rw [Int.toNat_natCast]; exact inS_pow) _ he σ
  · congr 1
    funext σ
    exact quF_one (fun v => by rw [Int.toNat_natCast]; exact inS_pow) _ he σ
  refine bothN rfl (bothN rfl (bothN rfl (bothN rfl (bothN rfl (bothN rfl (bothN rfl (bothN rfl (bothN rfl ?_))))))))
  refine base_canE hO ?_ (condB (fun _ => base_canE hO ?_ (condB (fun _ => base_canE hO ?_ (condB (fun _ => base_canE hO ?_ h) (fun hc => by cases hc))) (fun hc => by cases hc))) (fun hc => by cases hc))
  · conv => rhs; rw [ca.eq]
    congr 1
    funext σ
    cases hs : σ e
    · rw [cond_false, show setA σ e false = σ by rw [← hs]; exact setA_id]
    · rw [cond_true, show setA σ e true = σ by rw [← hs]; exact setA_id]
  · congr 1
    funext σ
    exact Bool.or_comm _ _
  · congr 1
    funext σ
    exact Bool.and_comm _ _
  · conv => rhs; rw [ca.eq]
    congr 1
    funext σ
    rw [Int.toNat_natCast, setA_id]
end Go.Gg
