/- The law CommonBeta, over the formula. Conditions: the arguments' words are words. -/
import Derived.Test.YtonbnfgknijpoaaM45
import Derived.Test.YtonbnfgknijpoaaWLCommonBeta
namespace Go.Gg
theorem law45_CommonBeta_s {p b : GRat} {q : List GRat} {Q : Bool → Prop} (lq : q.length ≤ 9223372036854775807) (wp : WrR p) (wb : WrR b) (wq : WrL q) (h : Q true) : law45_CommonBeta_W p b q Q := by
  refine ⟨fun y => y = false → (Sh p ∧ Sh b) ∧ q.length ≤ 60 ∧ ∀ i : Nat, i < q.length → Sh (at' q (i : Int)), ?_, ?_⟩
  · refine law45_awake_s (condB (fun hh => by cases hh) fun _ => ?_)
    refine law45_short_s (by simp) (fun i hi => ?_) fun r1 h1 => condB (fun _ hh => by cases hh) fun e1 => law45_short_s lq wq fun r2 h2 e2 => ?_
    · match i with
      | 0 => exact wp
      | 1 => exact wb
      | i + 2 => exact absurd hi (by simp)
    · have h3 := (h1 (by simpa using e1)).2
      exact ⟨⟨h3 0 (by simp), h3 1 (by simp)⟩, h2 (by simpa using e2)⟩
  · intro y hy
    refine condB (fun _ => law45_awake_s h) fun hf => ?_
    obtain ⟨⟨hp, hb⟩, hl, hs⟩ := hy hf
    obtain ⟨⟨k1, q1, b1⟩, ⟨k2, q2, b2⟩⟩ := unav_lens_b hp hb
    obtain ⟨k3, q3, b3⟩ := totalM_Rp (by omega) hs
    refine common_Beta_s hp hb (ref45_Beta_s hp hb (common_Total_s (B := 1281) (by omega) (by omega) hl hs (ref45_Total_s (B := 1281) (by omega) (by omega) hl hs ?_)))
    refine base_Num_s (condE (fun _ => ?_) (fun hh => absurd rfl hh))
    refine base_Rat_same b1 (condB (fun _ => ?_) (fun hh => by cases hh))
    refine base_Rat_same b2 (condB (fun _ => ?_) (fun hh => by cases hh))
    refine base_Num_s (condE (fun _ => ?_) (fun hh => absurd rfl hh))
    exact base_Rat_same b3 h
end Go.Gg
