/- Chapter 17: Swap twice, and Reorder there and back, return the diagram. Conditions: none. -/
import Derived.Test.YtiamkdpljeemkaaMb
import Derived.Test.YtiamkdpljeemkaaWa
/- Chapter 17: Swap twice, and Reorder there and back, return the diagram. Conditions: none. -/
namespace Go.Gg
theorem law17_SiftingBack_s {d : GDiagram} {o : List Int} {level : Int} {Q : Bool → Prop} (h : Q true) : law17_SiftingBack_W d o level Q := by
  refine ⟨fun x => x = false → (VD d ∧ d.Order.length ≤ 8) ∧ (Or14 o ∧ o.length = d.Order.length) ∧ 2 ≤ o.length, law17_awake_s (condB (fun hc => by cases hc) (fun _ => law17_valid_s (condB (fun _ hc => by cases hc) (fun hc => by cases hc)) (fun hd h8 => condB (fun hc => by cases hc) (fun _ => condN (fun _ hc => by cases hc) (fun hl => ref14_Check_s (condN (fun _ hc => by cases hc) (fun hz hb => ?_))))))), fun x hx => condB (fun _ => law17_awake_s h) (fun hx0 => ?_)⟩
  · have := of_decide_eq_false hb
    exact ⟨⟨hd, by omega⟩, ⟨ordE_zero hz, by omega⟩, by omega⟩
  obtain ⟨⟨hd, h8⟩, ⟨ho, hl⟩, h2⟩ := hx hx0
  have hz := dgE_zero.2 hd
  obtain ⟨l, hlv⟩ : ∃ l : Nat, max 0 (min level ((o.length : Int) - 2)) = l := ⟨(max 0 (min level ((o.length : Int) - 2))).toNat, by omega⟩
  have hl1 : l + 1 < d.Order.length := by omega
  refine ⟨by unfold rng; omega, ?_⟩
  unfold base_Clip_W
  rw [hlv]
  have s1 : swpE d (l : Int) = 0 := swpE_zero.2 ⟨hd, by omega, by omega⟩
  have hx := ex_reo hd (l := (l : Int)) (by omega) (by omega)
  have vx := reo_VD hd hx.1 hx.2 (by omega)
  have s2 : swpE (reoD d (exO d.Order (l : Int))) (l : Int) = 0 := swpE_zero.2 ⟨vx, by omega, by show (l : Int) + 1 < (exO d.Order (l : Int)).length; omega⟩
  have hr := reoE_zero.2 ⟨hd, ho, hl⟩
  have vo := reo_VD hd ho hl (by omega)
  have hr2 : reoE (reoD d o) d.Order = 0 := reoE_zero.2 ⟨vo, hd.ord, hl.symm⟩
  refine Swap_s (fun hc => absurd s1 hc) (fun _ => by omega) (fun _ => Swap_s (fun hc => absurd s2 hc) (fun _ => by show (exO d.Order (l : Int)).length ≤ 12; omega) (fun _ => sReorder_s (fun hc => absurd hr hc) (fun _ => by omega) (fun _ => sReorder_s (fun hc => absurd hr2 hc) (fun _ => by omega) (fun _ => ?_))))
  have e1 : reoD (reoD d (exO d.Order (l : Int))) (exO (reoD d (exO d.Order (l : Int))).Order (l : Int)) = d := by
    rw [reo_reo hd hx.1 hx.2]
    show reoD d (exO (exO d.Order (l : Int)) (l : Int)) = d
    rw [exO_twice hl1, reo_self hd]
  have e2 : reoD (reoD d o) d.Order = d := by rw [reo_reo hd ho hl, reo_self hd]
  rw [e1, e2]
  exact condB (fun _ => condB (fun _ => condB (fun _ => condB (fun _ => base_VD hd rfl (condB (fun _ => base_VD hd rfl h) (fun hc => by cases hc))) (fun hc => by cases hc)) (fun hc => by cases hc)) (fun hc => by cases hc)) (fun hc => by cases hc)
end Go.Gg
