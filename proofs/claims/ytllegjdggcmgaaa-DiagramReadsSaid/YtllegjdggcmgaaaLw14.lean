/- Chapter 15: Value, Support, Size and Levels, the program's and the reference's. Conditions: none. -/
import Derived.Test.YtllegjdggcmgaaaLw12
import Derived.Test.YtllegjdggcmgaaaLw11
import Derived.Test.YtllegjdggcmgaaaWa
/- Chapter 15: Value, Support, Size and Levels, the program's and the reference's. Conditions: none. -/
namespace Go.Gg
theorem base_Is_e {e c : Int} {Q : Bool → Prop} (h : Q (e == c)) : base_Is_W (some e) c Q := condB (fun _ => h) (fun hc => by cases hc)
theorem levN_le24 {o : List Int} {N : List GDNode} (h : Or14 o) : (levN o N).length ≤ 24 := by rw [levN_len]; exact h.le
theorem law15_DiagramReads_s {d : GDiagram} {state : Int} {Q : Bool → Prop} (h : Q true) : law15_DiagramReads_W d state Q := by
  refine ⟨fun _ => True, law15_awake_s (condB (fun hc => by cases hc) (fun _ => law15_large_s fun _ _ => trivial)), fun x _ => condB (fun _ => law15_awake_s h) (fun _ => ?_)⟩
  have q : ∀ e : Int, Q (e == e) := fun e => by rw [beq_self_eq_true]; exact h
  have bad : dgE d ≠ 0 → condW (!false)
          (condW ((0 : Int) == 0)
            (condW ((0 : Int) == 0)
              (condW ((([] : List Int).length : Int) == 0)
                (base_Num_W (some (dgE d)) fun r9 =>
                condW (r9 == dgE d)
                  (base_Num_W (some (dgE d)) fun r10 =>
                  condW (r10 == dgE d)
                    (base_Num_W (some (dgE d)) fun r11 =>
                    condW (r11 == dgE d)
                      (base_Num_W (some (dgE d)) fun r12 =>
                      Q (r12 == dgE d))
                      (Q false))
                    (Q false))
                  (Q false))
                (Q false))
              (Q false))
            (Q false))
          (Q false) := fun hc => condB (fun _ => condE (fun _ => condE (fun _ => condE (fun _ => base_Num_e (condE (fun _ => base_Num_e (condE (fun _ => base_Num_e (condE (fun _ => base_Num_e (q _)) (fun hh => absurd rfl hh))) (fun hh => absurd rfl hh))) (fun hh => absurd rfl hh))) (fun hh => absurd rfl hh)) (fun hh => absurd rfl hh)) (fun hh => absurd rfl hh)) (fun hh => by cases hh)
  -- what comes behind Value where the diagram is accepted
  have good : VD d → ∀ (v : Bool) (e1 : Option Int), (state < 0 ∨ ((2 ^ d.Order.length : Nat) : Int) ≤ state → v = false ∧ e1 = some 3) → (∀ k : Nat, state = k → k < 2 ^ d.Order.length → v = dF d (stA k) ∧ e1 = none) →
      condW (Option.isSome (none : Option Int))
          (Q false)
          (condW (Option.isSome (none : Option Int))
            (Q false)
            (condW (Option.isSome (none : Option Int))
              (Q false)
              (ref15_Support_W d fun r13 =>
              condW ((supM d.Nodes : Int) != r13)
                (Q false)
                (condW ((d.Nodes.length : Int) != (d.Nodes.length : Int))
                  (Q false)
                  (ref15_Levels_W d fun r14 =>
                  base_Ints_W (levN d.Order d.Nodes) r14 fun r15 =>
                  condW (!r15)
                    (Q false)
                    (joinW (α := Bool) (fun next1 =>
                      condW (decide (state < 0))
                        (next1 true)
                        ((((0 : Int) ≤ (d.Order.length : Int) ∧ (d.Order.length : Int) ≤ 64) ∧ rng (1 * 2 ^ (Int.toNat (d.Order.length : Int)))) ∧
                        next1 (decide ((1 * 2 ^ (Int.toNat (d.Order.length : Int))) ≤ state))))
                      fun x1 =>
                      condW x1
                        (condW (!v)
                          (base_Is_W e1 3 fun r16 =>
                          Q r16)
                          (Q false))
                        (condW (Option.isNone e1)
                          (ref15_Value_W d state fun r17 =>
                          Q (v == r17))
                          (Q false)))))))) := by
    intro hV v e1 hbad hgood
    have hn := hV.ord.le
    have hp := dpow24 hn
    have hll := levN_le24 (N := d.Nodes) hV.ord
    refine condB (fun hc => by cases hc) (fun _ => condB (fun hc => by cases hc) (fun _ => condB (fun hc => by cases hc) (fun _ => ref15_Support_s hV (condN (fun hc => absurd rfl hc) (fun _ => condN (fun hc => absurd rfl hc) (fun _ => ref15_Levels_s hV (base_Ints_s (by omega) ?_)))))))
    rw [decide_eq_true rfl]
    refine condB (fun hc => by cases hc) (fun _ => ⟨fun x => (x = true → state < 0 ∨ ((2 ^ d.Order.length : Nat) : Int) ≤ state) ∧ (x = false → 0 ≤ state ∧ state < ((2 ^ d.Order.length : Nat) : Int)), condT (fun hc => ⟨fun _ => .inl hc, fun hc => by cases hc⟩) (fun hc => ⟨shl_ok (by omega), ?_⟩), ?_⟩)
    · rw [shl_pow]
      exact ⟨fun hh => .inr (of_decide_eq_true hh), fun hh => ⟨by omega, by have := of_decide_eq_false hh; omega⟩⟩
    rintro x ⟨hx1, hx2⟩
    refine condB (fun hc => ?_) (fun hc => ?_)
    · obtain ⟨rfl, rfl⟩ := hbad (hx1 hc)
      exact condB (fun _ => base_Is_e h) (fun hh => by cases hh)
    · have hs := hx2 hc
      obtain ⟨k, rfl⟩ : ∃ k : Nat, state = k := ⟨state.toNat, by omega⟩
      obtain ⟨rfl, rfl⟩ := hgood k rfl (by omega)
      exact condB (fun _ => ref15_Value_s hV (by omega) (by rw [show dn d.Nodes d.Root (stA k) = dF d (stA k) from rfl, beq_self_eq_true]; exact h)) (fun hh => by cases hh)
  by_cases hz : dgE d = 0
  · have hV := dgE_zero.1 hz
    refine dValue_s (fun hc => absurd hz hc) (fun _ hs => ?_) (fun _ k hk hkl => ?_)
    · refine dSupport_s (fun hc => absurd hz hc) (fun _ => dSize_s (fun hc => absurd hz hc) (fun _ => dLevels_s (fun hc => absurd hz hc) (fun _ => ref15_Check_s ?_)))
      rw [hz]
      exact condN (fun hc => absurd rfl hc) (fun _ => good hV _ _ (fun _ => ⟨rfl, rfl⟩) (fun k hk hkl => by omega))
    · refine dSupport_s (fun hc => absurd hz hc) (fun _ => dSize_s (fun hc => absurd hz hc) (fun _ => dLevels_s (fun hc => absurd hz hc) (fun _ => ref15_Check_s ?_)))
      rw [hz]
      refine condN (fun hc => absurd rfl hc) (fun _ => good hV _ _ (fun hc => by omega) (fun k2 hk2 _ => ?_))
      obtain rfl : k2 = k := by omega
      exact ⟨rfl, rfl⟩
  · have nv : ∀ {p : Prop}, VD d → p := fun hV => absurd (dgE_zero.2 hV) hz
    exact dValue_s (fun hc => dSupport_s (fun _ => dSize_s (fun _ => dLevels_s (fun _ => ref15_Check_s (condN (fun _ => bad hz) (fun hc => absurd hc hz))) nv) nv) nv) nv nv
end Go.Gg
