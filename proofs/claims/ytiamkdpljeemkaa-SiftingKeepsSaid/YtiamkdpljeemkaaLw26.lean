/- Chapter 17: the value in every state, and the support, stay the same. Conditions: none. -/
import Derived.Test.YtiamkdpljeemkaaMb
import Derived.Test.YtiamkdpljeemkaaWa
/- Chapter 17: the value in every state, and the support, stay the same. Conditions: none. -/
namespace Go.Gg
theorem sup_same {d x : GDiagram} (hd : VD d) (hx : VD x) (_hl : x.Order.length = d.Order.length) (hf : dF x = dF d) : supM x.Nodes = supM d.Nodes := by
  have e1 : x = canD x.Order (dF x) := hx.can
  have e2 : d = canD d.Order (dF d) := hd.can
  have hdx := hx.dep
  have h := sup_orders (o := x.Order) (o' := d.Order) (f := dF d) hx.ord hd.ord (by rw [← hf]; exact hdx) hd.dep
  rw [e1, e2]
  rw [hf]
  exact h
theorem law17_SiftingKeeps_s {d : GDiagram} {o : List Int} {state : Int} {Q : Bool → Prop} (h : Q true) : law17_SiftingKeeps_W d o state Q := by
  refine ⟨fun x => x = false → (VD d ∧ d.Order.length ≤ 8) ∧ (Or14 o ∧ o.length = d.Order.length) ∧ 0 ≤ state ∧ state < ((2 ^ d.Order.length : Nat) : Int), law17_awake_s (condB (fun hc => by cases hc) (fun _ => law17_valid_s (condB (fun _ hc => by cases hc) (fun hc => by cases hc)) (fun hd h8 => condB (fun hc => by cases hc) (fun _ => condN (fun _ hc => by cases hc) (fun hl => ref14_Check_s (condN (fun _ hc => by cases hc) (fun hz => condT (fun _ hc => by cases hc) (fun hs => ⟨shl_ok (by omega), ?_⟩)))))))), fun x hx => condB (fun _ => law17_awake_s h) (fun hx0 => ?_)⟩
  · rw [shl_pow]
    intro hb
    have := of_decide_eq_false hb
    have e : o.length = d.Order.length := by omega
    rw [e] at this
    exact ⟨⟨hd, by omega⟩, ⟨ordE_zero hz, e⟩, by omega, by omega⟩
  obtain ⟨⟨hd, h8⟩, ⟨ho, hl⟩, hs0, hs1⟩ := hx hx0
  have hz := dgE_zero.2 hd
  have hr := reoE_zero.2 ⟨hd, ho, hl⟩
  have vo := reo_VD hd ho hl (by omega)
  have fo := reo_dF hd ho hl
  have hk := sift_kept hd (by omega)
  have zo := dgE_zero.2 vo
  have zk := dgE_zero.2 hk.vd
  have lo : (reoD d o).Order.length = d.Order.length := hl
  obtain ⟨s, rfl⟩ : ∃ s : Nat, state = s := ⟨state.toNat, by omega⟩
  refine sReorder_s (fun hc => absurd hr hc) (fun _ => by omega) (fun _ => Sift_s (fun hc => absurd hz hc) (fun _ => by omega) (fun _ => ?_))
  refine dValue_s (fun hc => absurd hz hc) (fun _ hc => by omega) (fun _ k hk1 _ => ?_)
  obtain rfl : s = k := by omega
  refine dValue_s (fun hc => absurd zo hc) (fun _ hc => by rw [lo] at hc; omega) (fun _ k hk1 _ => ?_)
  obtain rfl : s = k := by omega
  refine dValue_s (fun hc => absurd zk hc) (fun _ hc => by rw [hk.len] at hc; omega) (fun _ k hk1 _ => ?_)
  obtain rfl : s = k := by omega
  refine dSupport_s (fun hc => absurd hz hc) (fun _ => dSupport_s (fun hc => absurd zo hc) (fun _ => dSupport_s (fun hc => absurd zk hc) (fun _ => ?_)))
  rw [fo, hk.df, sup_same hd vo lo fo, sup_same hd hk.vd hk.len hk.df]
  refine condB (fun hc => by cases hc) (fun _ => condB (fun hc => by cases hc) (fun _ => condB (fun hc => by cases hc) (fun _ => condB (fun hc => by cases hc) (fun _ => condB (fun hc => by cases hc) (fun _ => condB (fun hc => by cases hc) (fun _ => condB (fun hc => by cases hc) (fun _ => condB (fun hc => by cases hc) (fun _ => ?_))))))))
  refine condE (fun _ => condE (fun _ => condE (fun _ => condE (fun _ => ?_) (fun hc => absurd rfl hc)) (fun hc => absurd rfl hc)) (fun hc => absurd rfl hc)) (fun hc => absurd rfl hc)
  refine base_Ints_s (by show o.length ≤ _; omega) ?_
  rw [decide_eq_true (show (reoD d o).Order = o from rfl)]
  exact h
end Go.Gg
