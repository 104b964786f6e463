/- Chapter 17: Sift never returns more nodes than before, Best never more than any other order. Conditions: none. -/
import Derived.Test.YtiamkdpljeemkaaMb
import Derived.Test.YtiamkdpljeemkaaWa
/- Chapter 17: Sift never returns more nodes than before, Best never more than any other order. Conditions: none. -/
namespace Go.Gg
theorem law17_SiftingLess_s {d : GDiagram} {o : List Int} {Q : Bool → Prop} (h : Q true) : law17_SiftingLess_W d o Q := by
  refine ⟨fun x => x = false → (VD d ∧ d.Order.length ≤ 6) ∧ Or14 o ∧ o.length = d.Order.length, law17_awake_s (condB (fun hc => by cases hc) (fun _ => law17_valid_s (condB (fun _ hc => by cases hc) (fun hc => by cases hc)) (fun hd h6 => condB (fun hc => by cases hc) (fun _ => condN (fun _ hc => by cases hc) (fun hl => ref14_Check_s (fun hb => ?_)))))), fun x hx => condB (fun _ => law17_awake_s h) (fun hx0 => ?_)⟩
  · have hz : ordE o o.length = 0 := by simpa using hb
    exact ⟨⟨hd, by omega⟩, ordE_zero hz, by omega⟩
  obtain ⟨⟨hd, h6⟩, ho, hl⟩ := hx hx0
  have hz := dgE_zero.2 hd
  have hr := reoE_zero.2 ⟨hd, ho, hl⟩
  refine Sift_s (fun hc => absurd hz hc) (fun _ => by omega) (fun _ => Best_s (fun hc => absurd hz hc) (fun _ hc => by omega) (fun _ _ => sReorder_s (fun hc => absurd hr hc) (fun _ => by omega) (fun _ => ?_)))
  have hk := sift_kept hd (by omega)
  have hb := (best_facts hd (by omega)).2
  have hs : keyD (bestD d) ≤ keyD (siftD d) := by
    have h1 := hb (siftD d).Order hk.vd.ord hk.len
    have e : reoD d (siftD d).Order = siftD d := by
      have := reo_self hk.vd
      unfold reoD at this ⊢
      rw [hk.df] at this
      exact this
    rw [e] at h1
    exact h1
  have h2 := hb o ho hl
  have h3 := hk.le
  unfold keyD at hs h2 h3
  refine condB (fun _ => condB (fun _ => condB (fun _ => condT (fun _ => condT (fun _ => ?_) (fun hc => absurd (by omega) hc)) (fun hc => absurd (by omega) hc)) (fun hc => by cases hc)) (fun hc => by cases hc)) (fun hc => by cases hc)
  rw [decide_eq_true (by omega)]
  exact h
end Go.Gg
