/- The law ProductChains, over the formula. Conditions: the arguments' words are words. -/
import Derived.Test.YtonbnfgknijpoaaM50e
import Derived.Test.YtonbnfgknijpoaaWLProductChains
namespace Go.Gg
theorem law50_ProductChains_s {x : GRates} {φ : GFormula} {Q : Bool → Prop} (l1 : x.Fail.length ≤ 9223372036854775807) (l2 : x.Repair.length ≤ 9223372036854775807) (w1 : WrL x.Fail) (w2 : WrL x.Repair) (ht : rng φ.Top) (h : Q true) : law50_ProductChains_W x φ Q := by
  refine ⟨fun y => y = false → Frs 65 x.Fail ∧ Frs 65 x.Repair, ?_, ?_⟩
  · refine law50_awake_s (condB (fun hh => (by cases hh)) fun _ => ?_)
    refine law50_short_s l1 fun r1 h1 => condB (fun _ hh => (by cases hh)) fun e1 => ?_
    refine law50_short_s l2 fun r2 h2 => condB (fun _ hh => (by cases hh)) fun e2 => law08_Light_s fun b _ => ?_
    have h1 := (h1 (by simpa using e1)).2
    have h2 := (h2 (by simpa using e2)).2
    exact ⟨fun i hi => Two_Fr (w1 i hi) (h1 i hi), fun i hi => Two_Fr (w2 i hi) (h2 i hi)⟩
  · intro y hy
    refine condB (fun _ => law50_awake_s h) fun hf => ?_
    obtain ⟨f1, f2⟩ := hy hf
    refine product_Chain_s (k := 65) (by omega) f1 f2 ht (ref50_Chain_s (k := 65) (by omega) f1 f2 ht ?_)
    refine base_Num_s (condE (fun _ => ?_) (fun hh => absurd rfl hh))
    unfold chainM
    by_cases hc : listsE x.Fail x.Repair ≠ 0
    · rw [if_pos hc]
      exact base_Chain_same (by simp) (by simp) (fun i hi => absurd hi (by simp)) (condB (fun _ => condN (fun _ => h) (fun hh => absurd hh hc)) (fun hh => by cases hh))
    rw [if_neg hc]
    by_cases hc2 : chkM φ ≠ 0
    · rw [if_pos hc2]
      exact base_Chain_same (by simp) (by simp) (fun i hi => absurd hi (by simp)) (condB (fun _ => condN (fun _ => h) (fun hh => absurd hh hc2)) (fun hh => by cases hh))
    rw [if_neg hc2]
    by_cases hv : φ.Vars ≠ (x.Fail.length : Int)
    · rw [if_pos hv]
      exact base_Chain_same (by simp) (by simp) (fun i hi => absurd hi (by simp)) (condB (fun _ => condN (fun _ => h) (fun hh => absurd hh (by decide))) (fun hh => by cases hh))
    rw [if_neg hv]
    obtain ⟨hl, h0, h8, hall⟩ := lists_zero (Classical.not_not.1 hc)
    have hp := pow_le_256 h8
    have hp1 : 1 ≤ 2 ^ x.Fail.length := Nat.one_le_two_pow
    have hml := mvs_small (f := x.Fail) (r := x.Repair) h8 hp
    have hmv := chainM_moves (φ := φ) f1 f2 hl (fun i hi => (hall i hi).1) (Nat.le_refl (2 ^ x.Fail.length))
    refine base_Chain_same ?_ (Nat.le_trans hml (by omega)) (fun i hi => (hmv i hi).2.2.2.1) (condB (fun _ => condN (fun hh => absurd rfl hh) (fun _ => ?_)) (fun hh => by cases hh))
    · rw [List.length_map, List.length_range]; omega
    refine chain_Check_s ?_ ?_ ?_ rfl (Nat.le_trans hml (by omega)) hmv (mvs_srt _) h
    · show (1 : Int) ≤ ((2 ^ x.Fail.length : Nat) : Int)
      omega
    · show ((2 ^ x.Fail.length : Nat) : Int) ≤ 256
      omega
    · rw [List.length_map, List.length_range]
end Go.Gg
