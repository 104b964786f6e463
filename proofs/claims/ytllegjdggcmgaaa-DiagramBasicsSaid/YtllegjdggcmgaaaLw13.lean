/- Chapter 15: Constant and Event, the program's and the reference's. Conditions: none. -/
import Derived.Test.YtllegjdggcmgaaaLw12
import Derived.Test.YtllegjdggcmgaaaWa
/- Chapter 15: Constant and Event, the program's and the reference's. Conditions: none. -/
namespace Go.Gg
theorem clone_s {o : List Int} {Q : List Int → Prop} (ho : o.length ≤ 24) (hQ : Q o) : slices_Clone___int_int_W o Q := fun isnil hnil =>
  condB (fun hb => by rw [hnil hb] at hQ; exact hQ) (fun _ => ⟨by rw [List.nil_append]; omega, by rw [List.nil_append]; exact hQ⟩)
theorem base_self {a : GDiagram} {Q : Bool → Prop} (lo : a.Order.length ≤ 9223372036854775807) (ln : a.Nodes.length ≤ 9223372036854775807) (h : Q true) : base_Diagram_W a a Q := base_Diagram_s lo ln (by rw [decide_eq_true rfl]; exact h)
theorem law15_DiagramBasics_s {v : Bool} {i : Int} {o : List Int} {Q : Bool → Prop} (h : Q true) : law15_DiagramBasics_W v i o Q := by
  refine ⟨fun _ => True, law15_awake_s (condB (fun hc => by cases hc) (fun _ => trivial)), fun x _ => condB (fun _ => law15_awake_s h) (fun _ => ?_)⟩
  by_cases hz : ordE o o.length = 0
  · have hO := ordE_zero hz
    have hle := hO.le
    -- what comes behind the two calls
    have tail : ∀ (two : Int) (x2 : GDiagram) (e2 : Option Int), errO two = e2 → x2.Order.length ≤ 24 → x2.Nodes.length ≤ 1 → (two = 0 → (0 ≤ i ∧ i < (o.length : Int)) ∧ x2 = ⟨o, [⟨i, 0, 1⟩], 2⟩) → (two ≠ 0 → x2 = noD) → two = (if i < 0 ∨ (o.length : Int) ≤ i then 10 else 0) →
        ref14_Check_W o (o.length : Int) fun one =>
      joinW (α := Int) (fun next3 =>
        condW (one == 0)
          (condW (decide (i < 0))
            (next3 10)
            (condW (decide ((o.length : Int) ≤ i))
              (next3 10)
              (next3 one)))
          (next3 one))
        fun two =>
        base_Num_W none fun r5 =>
        condW (r5 != one)
          (Q false)
          (base_Num_W e2 fun r6 =>
          condW (r6 != two)
            (Q false)
            (joinW (α := GDiagram) (fun next2 =>
              condW (one == 0)
                (ref15_Constant_W v o fun r10 =>
                next2 r10)
                (next2 (⟨[], [], 0⟩ : GDiagram)))
              fun x1 =>
              joinW (α := GDiagram) (fun next1 =>
                condW (two == 0)
                  (ref15_Event_W i o fun r9 =>
                  next1 r9)
                  (next1 (⟨[], [], 0⟩ : GDiagram)))
                fun x3 =>
                base_Diagram_W ⟨o, [], if v then 1 else 0⟩ x1 fun r7 =>
                condW r7
                  (base_Diagram_W x2 x3 fun r8 =>
                  Q r8)
                  (Q false))) := by
      rintro two x2 e2 rfl hl1 hl2 h0 h1 hdef
      refine ref14_Check_s ?_
      rw [hz]
      refine ⟨fun t => t = two, condE (fun _ => condT (fun hc => ?_) (fun hc => condT (fun hc2 => ?_) (fun hc2 => ?_))) (fun hc => absurd rfl hc), ?_⟩
      · rw [hdef, if_pos (.inl hc)]
      · rw [hdef, if_pos (.inr hc2)]
      · rw [hdef, if_neg (by omega)]
      rintro t rfl
      refine base_Num_s (e := 0) (condN (fun hc => absurd rfl hc) (fun _ => base_Num_s (condN (fun hc => absurd rfl hc) (fun _ => ?_))))
      refine ⟨fun x1 => x1 = ⟨o, [], if v then 1 else 0⟩, condE (fun _ => ⟨by omega, condB (fun hv => by rw [hv]; rfl) (fun hv => by rw [hv]; rfl)⟩) (fun hc => absurd rfl hc), ?_⟩
      rintro x1 rfl
      refine ⟨fun x3 => x3 = x2, condE (fun hc => ⟨by omega, condB (fun hv => by cases hv) (fun _ => ?_)⟩) (fun hc => (h1 hc).symm), ?_⟩
      · exact (h0 hc).2.symm
      rintro x3 rfl
      exact base_self (by show o.length ≤ _; omega) (by show 0 ≤ _; omega) (condB (fun _ => base_self (by omega) (by omega) h) (fun hc => by cases hc))
    refine order_Check_s ?_
    rw [hz]
    refine condB (fun hc => by cases hc) (fun _ => clone_s hle ⟨fun x => x = ⟨o, [], if v then 1 else 0⟩, condB (fun hv => by rw [hv]; rfl) (fun hv => by rw [hv]; rfl), ?_⟩)
    rintro x rfl
    refine order_Check_s ?_
    rw [hz]
    refine condB (fun hc => by cases hc) (fun _ => ⟨fun b => (b = true → i < 0 ∨ (o.length : Int) ≤ i) ∧ (b = false → 0 ≤ i ∧ i < (o.length : Int)), condT (fun hc => ⟨fun _ => .inl hc, fun hh => by cases hh⟩) (fun hc => ⟨fun hh => .inr (of_decide_eq_true hh), fun hh => ⟨by omega, by have := of_decide_eq_false hh; omega⟩⟩), ?_⟩)
    rintro b ⟨hb1, hb2⟩
    refine condB (fun hb => ?_) (fun hb => clone_s hle ?_)
    · exact tail 10 noD _ rfl (by show 0 ≤ 24; omega) (by show 0 ≤ 1; omega) (fun hc => by cases hc) (fun _ => rfl) (by rw [if_pos (hb1 hb)])
    · have hi := hb2 hb
      exact tail 0 ⟨o, [⟨i, 0, 1⟩], 2⟩ none rfl hle (by show 1 ≤ 1; omega) (fun _ => ⟨hi, rfl⟩) (fun hc => absurd rfl hc) (by rw [if_neg (by omega)])
  · refine order_Check_s ?_
    rw [errO_ne' hz]
    refine condB (fun _ => order_Check_s ?_) (fun hc => by cases hc)
    rw [errO_ne' hz]
    refine condB (fun _ => ref14_Check_s ?_) (fun hc => by cases hc)
    refine ⟨fun t => t = ordE o o.length, condE (fun hc => absurd hc hz) (fun _ => rfl), ?_⟩
    rintro t rfl
    refine base_Num_e (condN (fun hc => absurd rfl hc) (fun _ => base_Num_e (condN (fun hc => absurd rfl hc) (fun _ => ?_))))
    refine ⟨fun x1 => x1 = noD, condE (fun hc => absurd hc hz) (fun _ => rfl), ?_⟩
    rintro x1 rfl
    refine ⟨fun x1 => x1 = noD, condE (fun hc => absurd hc hz) (fun _ => rfl), ?_⟩
    rintro x1 rfl
    exact base_noD (condB (fun _ => base_noD h) (fun hc => by cases hc))
end Go.Gg
