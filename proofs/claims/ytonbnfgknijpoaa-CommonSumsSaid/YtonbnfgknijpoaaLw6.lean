/- The law CommonSums, over the formula. Conditions: the arguments' words are words. -/
import Derived.Test.YtonbnfgknijpoaaM45b
import Derived.Test.YtonbnfgknijpoaaWLCommonSums
namespace Go.Gg
theorem law45_CommonSums_s {p : GRat} {f : List GRat} {Q : Bool → Prop} (lf : f.length ≤ 9223372036854775807) (wp : WrR p) (wf : WrL f) (h : Q true) : law45_CommonSums_W p f Q := by
  refine ⟨fun y => y = false → Sh p ∧ f.length ≤ 60 ∧ ∀ i : Nat, i < f.length → Sh (at' f (i : Int)), ?_, ?_⟩
  · refine law45_awake_s (condB (fun hh => by cases hh) fun _ => ?_)
    refine law45_short_s (by simp) (fun i hi => ?_) fun r1 h1 => condB (fun _ hh => by cases hh) fun e1 => law45_short_s lf wf fun r2 h2 e2 => ?_
    · match i with
      | 0 => exact wp
      | i + 1 => exact absurd hi (by simp)
    · exact ⟨(h1 (by simpa using e1)).2 0 (by simp), h2 (by simpa using e2)⟩
  · intro y hy
    refine condB (fun _ => law45_awake_s h) fun hf => ?_
    obtain ⟨hp, hl, hs⟩ := hy hf
    refine common_Greek_s hp hl hs ?_
    have hR := greekM_Rp hp hs
    have hlen4 := greekM_len (p := p) (f := f)
    by_cases h1 : probB p = false ∨ probsB f = false
    · have e : greekM p f = ([], 3) := if_pos h1
      rw [e]
      exact condB (fun _ => h) (fun hh => by cases hh)
    by_cases h2 : f.length < 1 ∨ 3 < f.length
    · have e : greekM p f = ([], 11) := (if_neg h1).trans (if_pos h2)
      rw [e]
      exact condB (fun _ => h) (fun hh => by cases hh)
    have e : greekM p f = ((List.range (f.length + 1)).map (fun k => ratOf (outR p f k)), 0) := (if_neg h1).trans (if_neg h2)
    rw [e] at hR hlen4 ⊢
    rw [not_or] at h1
    obtain ⟨_, p0, p1⟩ := probB_ok (a := p) (by simpa using h1.1)
    have hf01 : ∀ i : Nat, i < f.length → 0 ≤ valR (at' f (i : Int)) ∧ valR (at' f (i : Int)) ≤ 1 := fun i hi => (probB_ok (probsB_at (by simpa using h1.2) hi)).2
    have hout := fun {k : Nat} (hk : k ≤ f.length) => out_in p0 hf01 (by omega) hk
    have hat : ∀ k : Nat, k < f.length + 1 → at' ((List.range (f.length + 1)).map (fun k => ratOf (outR p f k))) (k : Int) = ratOf (outR p f k) := fun k hk => at_mapR hk
    have hlen : ((List.range (f.length + 1)).map (fun k => ratOf (outR p f k))).length = f.length + 1 := by simp
    dsimp only at hR hlen4
    generalize (List.range (f.length + 1)).map (fun k => ratOf (outR p f k)) = L at *
    dsimp only
    refine condB (fun hh => by cases hh) fun _ => ?_
    have hq : ∀ i : Nat, i < L.length → Rp 10000 (at' L (i : Int)) (valR (at' L (i : Int))) := fun i hi => ⟨(hR i hi).1, rfl, by rw [(hR i hi).2.1]; exact (hR i hi).2.2⟩
    have hprobs : probsB L = true := decide_eq_true fun i hi => by
      rw [hat i (by omega)]
      have := (hout (k := i) (by omega)).1
      exact probB_in this.1 (Rat.le_trans this.2 p1)
    have ht : totalM L = (ratOf (valR p), 0) := by
      unfold totalM
      rw [if_neg (by omega), if_neg (by rw [hprobs]; simp)]
      have e2 : sumTo (totT L) L.length = sumTo (ownR p f) (f.length + 1) := by
        rw [hlen]
        refine sumTo_congr _ fun i hi => ?_
        unfold totT
        rw [hat i hi, valR_ratOf, hlen, Nat.add_sub_cancel]
        exact (hout (k := i) (by omega)).2
      rw [e2, sumTo, sum_own _ (Nat.le_refl _), ownR, if_neg (by omega)]
      congr 2
      grind
    refine common_Total_s (B := 10000) (by omega) (by omega) (by omega) hq ?_
    rw [ht]
    refine condB (fun hh => by cases hh) fun _ => ⟨by unfold rng; omega, condN (fun hne => absurd (by omega) hne) fun _ => ?_⟩
    refine scanW (fun _ => False) (by omega) (fun i next hi hI hnx => ⟨⟨by omega, by omega⟩, rational_Prob_s (hq i hi).1 ?_⟩) (fun _ => ?_)
    · have h5 := (hout (k := i) (by omega)).1
      have rr := hR i hi
      rw [hat i (by omega)] at rr ⊢
      rw [probB_in h5.1 (Rat.le_trans h5.2 p1)]
      refine condB (fun hh => by cases hh) fun _ => cmp_p rr hp (by decide) (condT (fun hh => ?_) (fun _ => hnx (fun hh => hh)))
      have h6 := sgnR_nonpos.2 (sub_le_zero.2 h5.2)
      omega
    · have rp : Rp 1281 (ratOf (valR p)) (valR p) := .of hp.2.2 (by decide)
      refine cmp_p rp hp (by decide) ?_
      rw [sgn_is0 (sub_eq_zero.2 rfl)]
      exact h
end Go.Gg
