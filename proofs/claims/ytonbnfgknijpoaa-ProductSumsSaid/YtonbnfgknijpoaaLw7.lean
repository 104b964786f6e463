/- The law ProductSums, over the formula. Conditions: the arguments' words are words. -/
import Derived.Test.YtonbnfgknijpoaaM50c
import Derived.Test.YtonbnfgknijpoaaWLProductSums
namespace Go.Gg
theorem law50_ProductSums_s {dist : List GRat} {i : Int} {f : GFormula} {Q : Bool → Prop} (ld : dist.length ≤ 9223372036854775807) (wd : WrL dist) (ht : rng f.Top) (h : Q true) : law50_ProductSums_W dist i f Q := by
  refine ⟨fun y => y = false → Frs 65 dist, ?_, ?_⟩
  · refine law50_awake_s (condB (fun hh => (by cases hh)) fun _ => ?_)
    refine law50_short_s ld fun r1 h1 => condB (fun _ hh => (by cases hh)) fun e1 => law08_Light_s fun b _ => ?_
    exact fun i hi => Two_Fr (wd i hi) ((h1 (by simpa using e1)).2 i hi)
  · intro y hy
    refine condB (fun _ => law50_awake_s h) fun hf => ?_
    have hd := hy hf
    obtain ⟨k1, q1, b1⟩ := margM_Rp (i := i) (B := 65) (by omega) (by omega) hd
    obtain ⟨k2, q2, b2⟩ := downM_Rp (f := f) (B := 65) (by omega) (by omega) hd
    refine product_Marginal_s ld (B := 65) (by omega) (by omega) hd (product_Down_s ld ht (B := 65) (by omega) (by omega) hd (ref50_Marginal_s ld (B := 65) (by omega) (by omega) hd (ref50_Down_s ld ht (B := 65) (by omega) (by omega) hd ?_)))
    refine base_Num_s (condE (fun _ => ?_) (fun hh => absurd rfl hh))
    refine base_Rat_s b1.len.1 b1.len.2 ?_
    rw [decide_eq_true rfl]
    refine condB (fun _ => ?_) (fun hh => by cases hh)
    refine base_Num_s (condE (fun _ => ?_) (fun hh => absurd rfl hh))
    refine base_Rat_s b2.len.1 b2.len.2 ?_
    rw [decide_eq_true rfl]
    exact h
end Go.Gg
