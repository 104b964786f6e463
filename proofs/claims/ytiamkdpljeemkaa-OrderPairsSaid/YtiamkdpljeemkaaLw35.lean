/- Chapter 14: Positions, Distance and Exchange. Conditions: none. -/
import Derived.Test.YtiamkdpljeemkaaMb
import Derived.Test.YtiamkdpljeemkaaWa
/- Chapter 14: Positions, Distance and Exchange. Conditions: none. -/
namespace Go.Gg
theorem Positions_s2 {o : List Int} {Q : List Int → Option Int → Prop} (h : ∀ r e, (ordE o o.length ≠ 0 → r = [] ∧ e = some (ordE o o.length)) → (ordE o o.length = 0 → r = posO o ∧ e = none) → Q r e) : order_Positions_W o Q :=
  Positions_s (fun hc => h _ _ (fun _ => ⟨rfl, rfl⟩) (fun hz => absurd hz hc)) (fun ho => h _ _ (fun hc => absurd (ordE_of ho) hc) (fun _ => ⟨rfl, rfl⟩))
theorem Distance_s2 {a b : List Int} {Q : Int → Option Int → Prop} (h : ∀ r e, (disE a b ≠ 0 → r = 0 ∧ e = some (disE a b)) → (disE a b = 0 → r = (disM a b : Int) ∧ e = none) → Q r e) : order_Distance_W a b Q :=
  Distance_s (fun hc => h _ _ (fun _ => ⟨rfl, rfl⟩) (fun hz => absurd hz hc)) (fun hz => h _ _ (fun hc => absurd hz hc) (fun _ => ⟨rfl, rfl⟩))
theorem Exchange_s2 {o : List Int} {l : Int} {Q : List Int → Option Int → Prop} (h : ∀ r e, (exE o l ≠ 0 → r = [] ∧ e = some (exE o l)) → (exE o l = 0 → r = exO o l ∧ e = none) → Q r e) : order_Exchange_W o l Q :=
  Exchange_s (fun hc => h _ _ (fun _ => ⟨rfl, rfl⟩) (fun hz => absurd hz hc)) (fun hz => h _ _ (fun hc => absurd hz hc) (fun _ => ⟨rfl, rfl⟩))
theorem num_s {e : Int} {x : Option Int} {Q : Int → Prop} (h0 : e ≠ 0 → x = some e) (h1 : e = 0 → x = none) (h : Q e) : base_Num_W x Q := by
  by_cases hz : e = 0
  · rw [h1 hz]; subst hz; exact base_Num_s (e := 0) h
  · rw [h0 hz, ← errO_ne' hz]; exact base_Num_s h
theorem law14_OrderPairs_s {a b : List Int} {level : Int} {Q : Bool → Prop} (h : Q true) : law14_OrderPairs_W a b level Q := by
  refine ⟨fun x => x = false → a.length ≤ 1000 ∧ b.length ≤ 1000, law14_awake_s (condB (fun hc => by cases hc) (fun _ => condT (fun _ hc => by cases hc) (fun h1 hb => ?_))), fun x hx => condB (fun _ => law14_awake_s h) (fun hx0 => ?_)⟩
  · have := of_decide_eq_false hb
    omega
  obtain ⟨la, lb⟩ := hx hx0
  refine Positions_s2 (fun r1 e1 p0 p1 => Distance_s2 (fun r2 e2 d0 d1 => Exchange_s2 (fun r3 e3 x0 x1 => ref14_Check_s ?_)))
  refine ⟨fun two => two = if ordE a a.length ≠ 0 then ordE a a.length else ordE b b.length, condE (fun hz => ref14_Check_s (by rw [if_neg (fun hc => hc hz)])) (fun hz => by rw [if_pos hz]), fun two htwo => ⟨fun two1 => two1 = disE a b, ?_, fun two1 htwo1 => ⟨fun three => three = exE a level, ?_, fun three hthree => ⟨fun _ => True, ?_, fun _ _ => ?_⟩⟩⟩⟩
  · subst htwo
    by_cases hz : ordE a a.length ≠ 0
    · rw [if_pos hz]
      have e : disE a b = ordE a a.length := by unfold disE; rw [if_pos hz]
      rw [e]
      exact condE (fun hc => absurd hc hz) (fun _ => rfl)
    · rw [if_neg hz]
      by_cases hb : ordE b b.length ≠ 0
      · have e : disE a b = ordE b b.length := by unfold disE; rw [if_neg hz, if_pos hb]
        rw [e]
        exact condE (fun hc => absurd hc hb) (fun _ => rfl)
      · have hb0 : ordE b b.length = 0 := Classical.not_not.1 hb
        refine condE (fun _ => condN (fun hl => ?_) (fun hl => ?_)) (fun hc => absurd hb0 hc)
        · unfold disE; rw [if_neg hz, if_neg hb, if_pos (by omega)]
        · unfold disE; rw [if_neg hz, if_neg hb, if_neg (by omega)]; exact hb0
  · by_cases hz : ordE a a.length ≠ 0
    · have e : exE a level = ordE a a.length := by unfold exE; rw [if_pos hz]
      rw [e]
      exact condE (fun hc => absurd hc hz) (fun _ => rfl)
    · have hz0 : ordE a a.length = 0 := Classical.not_not.1 hz
      have e : exE a level = if level < 0 ∨ (a.length : Int) - 2 < level then 10 else 0 := by unfold exE; rw [if_neg hz]
      rw [e]
      refine condE (fun _ => condT (fun hc => by rw [if_pos (.inl hc)]) (fun hc => ⟨by unfold rng; omega, condT (fun hc2 => by rw [if_pos (.inr hc2)]) (fun hc2 => by rw [if_neg (by omega)]; exact hz0)⟩)) (fun hc => absurd hz0 hc)
  · subst htwo1 hthree
    refine num_s (fun hc => (p0 hc).2) (fun hz => (p1 hz).2) (condN (fun hc => absurd rfl hc) (fun _ => num_s (fun hc => (d0 hc).2) (fun hz => (d1 hz).2) (condN (fun hc => absurd rfl hc) (fun _ => num_s (fun hc => (x0 hc).2) (fun hz => (x1 hz).2) (condN (fun hc => absurd rfl hc) (fun _ => ?_))))))
    have t3 : condW (exE a level != 0) (condW (decide (0 < (r3.length : Int))) (Q false) True) True := condN (fun hc => condT (fun hl => by rw [(x0 hc).1] at hl; simp at hl) (fun _ => trivial)) (fun _ => trivial)
    have t2 : condW (disE a b != 0) (condW (r2 != 0) (Q false) (condW (exE a level != 0) (condW (decide (0 < (r3.length : Int))) (Q false) True) True)) (condW (exE a level != 0) (condW (decide (0 < (r3.length : Int))) (Q false) True) True) := condN (fun hc => condN (fun hl => absurd (d0 hc).1 hl) (fun _ => t3)) (fun _ => t3)
    exact condN (fun hc => condT (fun hl => by rw [(p0 hc).1] at hl; simp at hl) (fun _ => t2)) (fun _ => t2)
  · subst htwo1 hthree
    have t3 : condW (exE a level != 0) (Q true) (ref14_Exchange_W a level fun r17 => base_Ints_W r3 r17 fun r18 => Q r18) := condN (fun _ => h) (fun hz => ref14_Exchange_s hz (by rw [(x1 hz).1]; exact base_Ints_s (by rw [exO_len]; omega) (by rw [decide_eq_true rfl]; exact h)))
    have t2 : condW (disE a b != 0) (condW (exE a level != 0) (Q true) (ref14_Exchange_W a level fun r17 => base_Ints_W r3 r17 fun r18 => Q r18))
        (ref14_Distance_W a b fun r14 => condW (r2 == r14) (condW (exE a level != 0) (Q true) (ref14_Exchange_W a level fun r17 => base_Ints_W r3 r17 fun r18 => Q r18)) (Q false)) :=
      condN (fun _ => t3) (fun hz => by
        have hd := disE_zero.1 hz
        exact ref14_Distance_s hd.1 hd.2.1 hd.2.2 (condE (fun _ => t3) (fun hc => absurd (d1 hz).1 hc)))
    exact condN (fun _ => t2) (fun hz => by
      have ho := ordE_zero hz
      refine ref14_Positions_s ho ?_
      rw [(p1 hz).1]
      exact base_Ints_s (by rw [posO_len]; omega) (condB (fun _ => t2) (fun hc => by simp at hc)))
end Go.Gg
