/- Chapter 16: the laws of and, or and not. Conditions: none. -/
import Derived.Test.YtllegjdggcmgaaaMb
import Derived.Test.YtllegjdggcmgaaaWa
/- Chapter 16: the laws of and, or and not. Conditions: none. -/
namespace Go.Gg
/-- An accepted diagram of an order, with its function. -/
structure CD (o : List Int) (d : GDiagram) (f : Asg → Bool) : Prop where
  vd : VD d
  ord : d.Order = o
  fn : dF d = f
section
variable {o : List Int} {a b c : GDiagram} {f g h : Asg → Bool}
theorem VD.cd (h : VD a) : CD a.Order a (dF a) := ⟨h, rfl, rfl⟩
theorem CD.or14 (h : CD o a f) : Or14 o := by obtain ⟨v, rfl, rfl⟩ := h; exact v.ord
theorem CD.dep (h : CD o a f) : Dep f (natO o) := by obtain ⟨v, rfl, rfl⟩ := h; exact v.dep
theorem CD.can (h : Or14 o) (hn : o.length ≤ 12) (hd : Dep f (natO o)) : CD o (canD o f) f := ⟨VD_can h hn hd, rfl, dF_can h hd⟩
theorem CD.eq (h : CD o a f) : a = canD o f := by obtain ⟨v, rfl, rfl⟩ := h; exact v.can
theorem And_c {Q : GDiagram → Option Int → Prop} (hn : o.length ≤ 12) (ha : CD o a f) (hb : CD o b g) (hQ : CD o (canD o fun σ => f σ && g σ) (fun σ => f σ && g σ) → Q (canD o fun σ => f σ && g σ) none) : algebra_And_W a b Q := by
  have hc := CD.can ha.or14 hn (ha.dep.map2 hb.dep (fun x y => x && y))
  obtain ⟨va, rfl, rfl⟩ := ha
  obtain ⟨vb, ob, rfl⟩ := hb
  exact algebra_And_s (fun _ => hn) (fun hh => absurd (opE_two' va vb ob) hh) (fun _ => hQ hc)
theorem Or_c {Q : GDiagram → Option Int → Prop} (hn : o.length ≤ 12) (ha : CD o a f) (hb : CD o b g) (hQ : CD o (canD o fun σ => f σ || g σ) (fun σ => f σ || g σ) → Q (canD o fun σ => f σ || g σ) none) : algebra_Or_W a b Q := by
  have hc := CD.can ha.or14 hn (ha.dep.map2 hb.dep (fun x y => x || y))
  obtain ⟨va, rfl, rfl⟩ := ha
  obtain ⟨vb, ob, rfl⟩ := hb
  exact algebra_Or_s (fun _ => hn) (fun hh => absurd (opE_two' va vb ob) hh) (fun _ => hQ hc)
theorem Xor_c {Q : GDiagram → Option Int → Prop} (hn : o.length ≤ 12) (ha : CD o a f) (hb : CD o b g) (hQ : CD o (canD o fun σ => f σ != g σ) (fun σ => f σ != g σ) → Q (canD o fun σ => f σ != g σ) none) : algebra_Xor_W a b Q := by
  have hc := CD.can ha.or14 hn (ha.dep.map2 hb.dep (fun x y => x != y))
  obtain ⟨va, rfl, rfl⟩ := ha
  obtain ⟨vb, ob, rfl⟩ := hb
  exact algebra_Xor_s (fun _ => hn) (fun hh => absurd (opE_two' va vb ob) hh) (fun _ => hQ hc)
theorem Not_c {Q : GDiagram → Option Int → Prop} (hn : o.length ≤ 12) (ha : CD o a f) (hQ : CD o (canD o fun σ => !f σ) (fun σ => !f σ) → Q (canD o fun σ => !f σ) none) : algebra_Not_W a Q := by
  have hc := CD.can ha.or14 hn ha.dep.notF
  obtain ⟨va, rfl, rfl⟩ := ha
  exact algebra_Not_s (fun _ => hn) (fun hh => absurd (opE_one' va) hh) (fun _ => hQ hc)
theorem Count_c {Q : Int → Option Int → Prop} (ha : CD o a f) (hQ : Q (cntN o.length f : Int) none) : algebra_Count_W a Q := by
  obtain ⟨va, rfl, rfl⟩ := ha
  exact algebra_Count_s (fun hh => absurd (dgE_zero.2 va) hh) (fun _ => hQ)
theorem Implies_c {Q : Bool → Option Int → Prop} (hn : o.length ≤ 12) (ha : CD o a f) (hb : CD o b g) (hQ : ∀ v : Bool, (v = true ↔ ∀ σ, f σ = true → g σ = true) → Q v none) : algebra_Implies_W a b Q := by
  obtain ⟨va, rfl, rfl⟩ := ha
  obtain ⟨vb, ob, rfl⟩ := hb
  exact algebra_Implies_s (fun _ => hn) (fun hh => absurd (opE_two' va vb ob) hh) (fun _ => hQ)
theorem Restrict_c {i : Int} {v : Bool} {Q : GDiagram → Option Int → Prop} (hn : o.length ≤ 12) (ha : CD o a f) (hi : 0 ≤ i ∧ i < (o.length : Int)) (hQ : CD o (canD o fun σ => f (setA σ i.toNat v)) (fun σ => f (setA σ i.toNat v)) → Q (canD o fun σ => f (setA σ i.toNat v)) none) : algebra_Restrict_W a i v Q := by
  have hc := CD.can ha.or14 hn (ha.dep.setG (v := i.toNat) (g := fun _ => v) Dep.const)
  obtain ⟨va, rfl, rfl⟩ := ha
  exact algebra_Restrict_s (fun _ => hn) (fun hh => absurd (opE_one' va) hh) (fun _ hh => absurd hi (by omega)) (fun _ _ => hQ hc)
theorem Compose_c {i : Int} {Q : GDiagram → Option Int → Prop} (hn : o.length ≤ 12) (ha : CD o a f) (hb : CD o b g) (hi : 0 ≤ i ∧ i < (o.length : Int)) (hQ : CD o (canD o fun σ => f (setA σ i.toNat (g σ))) (fun σ => f (setA σ i.toNat (g σ))) → Q (canD o fun σ => f (setA σ i.toNat (g σ))) none) : algebra_Compose_W a i b Q := by
  have hc := CD.can ha.or14 hn (ha.dep.setG (v := i.toNat) hb.dep)
  obtain ⟨va, rfl, rfl⟩ := ha
  obtain ⟨vb, ob, rfl⟩ := hb
  exact algebra_Compose_s (fun _ => hn) (fun hh => absurd (opE_two' va vb ob) hh) (fun _ hh => absurd hi (by omega)) (fun _ _ => hQ hc)
theorem Choose_c {Q : GDiagram → Option Int → Prop} (hn : o.length ≤ 12) (hc : CD o c h) (ha : CD o a f) (hb : CD o b g) (hQ : CD o (canD o fun σ => bif h σ then f σ else g σ) (fun σ => bif h σ then f σ else g σ) → Q (canD o fun σ => bif h σ then f σ else g σ) none) : algebra_Choose_W c a b Q := by
  have hd := CD.can hc.or14 hn (hc.dep.ite ha.dep hb.dep)
  obtain ⟨vc, rfl, rfl⟩ := hc
  obtain ⟨va, oa, rfl⟩ := ha
  obtain ⟨vb, ob, rfl⟩ := hb
  exact algebra_Choose_s (fun _ => hn) (fun hh => absurd (opE_three' vc va vb oa ob) hh) (fun _ => hQ hd)
theorem canF (h : Or14 o) : canD o (fun _ => false) = ⟨o, [], 0⟩ := by
  unfold canD
  rw [addF_has h.ord WT.nil (r := 0) Dep.const (by omega) (fun σ => den_zero)]
  rfl
end
theorem bothN {b : Option Int} {p q : Prop} (hb : b = none) (h : q) : condW (Option.isSome b) p q := condB (fun hc => by rw [hb] at hc; cases hc) (fun _ => h)
theorem law16_AlgebraLaws_s {a b c : GDiagram} {Q : Bool → Prop} (h : Q true) : law16_AlgebraLaws_W a b c Q := by
  refine ⟨fun x => x = false → opE [a, b, c] = 0 ∧ a.Order.length ≤ 12, law16_awake_s (condB (fun hc => by cases hc) (fun _ => law16_valid_s (by simp) (fun hc => by cases hc) (fun h0 h1 _ => ⟨h0, Nat.le_trans (h1 0 (by simp)) (by decide)⟩))), fun x hx => condB (fun _ => law16_awake_s h) (fun hx0 => ?_)⟩
  obtain ⟨h0, hn⟩ := hx hx0
  obtain ⟨⟨va, vb, vc⟩, ob, oc⟩ := opE_three h0
  have ca := va.cd
  have cb : CD a.Order b (dF b) := ⟨vb, ob, rfl⟩
  have cc : CD a.Order c (dF c) := ⟨vc, oc, rfl⟩
  have hO := va.ord
  refine Not_c hn ca fun c1 => Not_c hn c1 fun c3 => Not_c hn cb fun c5 => And_c hn ca cb fun c7 => Not_c hn c7 fun c9 => Or_c hn c1 c5 fun c11 => Or_c hn cb cc fun c13 => And_c hn ca c13 fun c15 => And_c hn ca cc fun c17 => Or_c hn c7 c17 fun c19 => Or_c hn ca c7 fun c21 => And_c hn ca c1 fun c23 => ?_
  refine bothN rfl (bothN rfl (bothN rfl (bothN rfl (bothN rfl (bothN rfl (bothN rfl (bothN rfl (bothN rfl (bothN rfl (bothN rfl (bothN rfl ?_)))))))))))
  refine base_canE hO ?_ (condB (fun _ => base_canE hO ?_ (condB (fun _ => base_canE hO ?_ (condB (fun _ => base_canE hO ?_ (condB (fun _ => ?_) (fun hc => by cases hc))) (fun hc => by cases hc))) (fun hc => by cases hc))) (fun hc => by cases hc))
  · conv => rhs; rw [ca.eq]
    congr 1
    funext σ
    simp
  · congr 1
    funext σ
    cases dF a σ <;> cases dF b σ <;> rfl
  · congr 1
    funext σ
    cases dF a σ <;> cases dF b σ <;> cases dF c σ <;> rfl
  · conv => rhs; rw [ca.eq]
    congr 1
    funext σ
    cases dF a σ <;> cases dF b σ <;> rfl
  · have e : (fun σ => dF a σ && !dF a σ) = fun _ => false := by
      funext σ
      cases dF a σ <;> rfl
    rw [e, canF hO]
    exact condE (fun _ => by simpa using h) (fun hc => absurd rfl hc)
end Go.Gg
