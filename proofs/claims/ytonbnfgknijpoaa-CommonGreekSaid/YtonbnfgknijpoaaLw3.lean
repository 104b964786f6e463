/- The law CommonGreek, over the formula. Conditions: the arguments' words are words. -/
import Derived.Test.YtonbnfgknijpoaaM45
import Derived.Test.YtonbnfgknijpoaaWLCommonGreek
namespace Go.Gg
theorem law45_CommonGreek_s {p : GRat} {f : List GRat} {Q : Bool → Prop} (lf : f.length ≤ 9223372036854775807) (wp : WrR p) (wf : WrL f) (h : Q true) : law45_CommonGreek_W p f Q := by
  refine ⟨fun y => y = false → Sh p ∧ f.length ≤ 60 ∧ ∀ i : Nat, i < f.length → Sh (at' f (i : Int)), ?_, ?_⟩
  · refine law45_awake_s (condB (fun hh => by cases hh) fun _ => ?_)
    refine law45_short_s (by simp) (fun i hi => ?_) fun r1 h1 => condB (fun _ hh => by cases hh) fun e1 => law45_short_s lf wf fun r2 h2 e2 => ?_
    · match i with
      | 0 => exact wp
      | i + 1 => exact absurd hi (by simp)
    · exact ⟨(h1 (by simpa using e1)).2 0 (by simp), h2 (by simpa using e2)⟩
  · intro y hy
    refine condB (fun _ => law45_awake_s h) fun hf => ?_
    obtain ⟨hp, hl, hs⟩ := hy hf
    refine common_Greek_s hp hl hs (ref45_Greek_s hp hl hs (base_Num_s (condE (fun _ => ?_) (fun hh => absurd rfl hh))))
    have hr := greekM_Rp hp hs
    exact base_Rats_same (Nat.le_trans greekM_len (by omega)) (fun i hi => (hr i hi).len) h
end Go.Gg
