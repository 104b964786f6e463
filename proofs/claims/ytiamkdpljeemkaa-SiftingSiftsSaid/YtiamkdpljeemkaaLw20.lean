/- Chapter 17: Sift. Conditions: none. -/
import Derived.Test.YtiamkdpljeemkaaMb
import Derived.Test.YtiamkdpljeemkaaWa
/- Chapter 17: Sift. Conditions: none. -/
namespace Go.Gg
theorem law17_SiftingSifts_s {d : GDiagram} {Q : Bool → Prop} (h : Q true) : law17_SiftingSifts_W d Q := by
  refine ⟨fun x => x = false → dgE d = 0 → (d.Order.length : Int) ≤ 6, law17_awake_s (condB (fun hc => by cases hc) (fun _ => law17_large_s (fun hb hz => largeM_no hb hz))), fun x hx => condB (fun _ => law17_awake_s h) (fun hx0 => ?_)⟩
  have h6 := hx hx0
  refine Sift_s (fun hc => ref15_Check_s (condN (fun _ => law17_none_s h) (fun he => absurd he hc))) (fun hz => by have := h6 hz; omega) (fun hz => ref15_Check_s (condN (fun hc => absurd hz hc) (fun _ => condB (fun _ => ?_) (fun hc => by cases hc))))
  have hd := dgE_zero.1 hz
  have hn : d.Order.length ≤ 12 := by have := h6 hz; omega
  exact ⟨_, ref17_Sift_s hd hn rfl, _, base_VD (sift_kept hd hn).vd rfl rfl, h⟩
end Go.Gg
