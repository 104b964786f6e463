/- Probabilities, Greek letters, the beta factor, totals: the program's and the reference's functions. Conditions: the numbers fit the machine. -/
import Derived.Test.YtonbnfgknijpoaaMb
import Derived.Test.YtonbnfgknijpoaaMa
import Derived.Test.YtonbnfgknijpoaaWPcommon
import Derived.Test.YtonbnfgknijpoaaWR45
import Derived.Test.YtonbnfgknijpoaaWH45
import Derived.Test.YtonbnfgknijpoaaWS
namespace Go.Gg

theorem at_mapR {α : Type} [Inhabited α] {f : Nat → α} {n i : Nat} (h : i < n) : at' ((List.range n).map f) (i : Int) = f i := by
  simp [at', List.getD_eq_getElem?_getD, h]
/-- All are probabilities. -/
def probsB (l : List GRat) : Bool := decide (∀ i, i < l.length → probB (at' l (i : Int)) = true)
theorem probsB_one {p : GRat} : probsB [p] = probB p := by
  unfold probsB
  cases h : probB p with
  | true => refine decide_eq_true fun i hi => ?_; match i with | 0 => exact h | i + 1 => exact absurd hi (by simp)
  | false => refine decide_eq_false fun hh => ?_; have : probB p = true := hh 0 (by simp); rw [h] at this; cases this
theorem probsB_two {p q : GRat} : probsB [p, q] = (probB p && probB q) := by
  unfold probsB
  cases h : probB p && probB q with
  | true =>
    rw [Bool.and_eq_true] at h
    refine decide_eq_true fun i hi => ?_
    match i with
    | 0 => exact h.1
    | 1 => exact h.2
    | i + 2 => exact absurd hi (by simp)
  | false =>
    refine decide_eq_false fun hh => ?_
    have h1 : probB p = true := hh 0 (by simp)
    have h2 : probB q = true := hh 1 (by simp)
    rw [h1, h2] at h; cases h
theorem probB_ok {a : GRat} (h : probB a = true) : a = ratOf (valR a) ∧ 0 ≤ valR a ∧ valR a ≤ 1 := by
  unfold probB at h
  simp only [Bool.and_eq_true, decide_eq_true_eq] at h
  exact ⟨okR_eq h.1, h.2.1, h.2.2⟩
theorem probB_ratOf {q : Rat} : probB (ratOf q) = (decide (0 ≤ q) && decide (q ≤ 1)) := by rw [probB, okR_ratOf, valR_ratOf, Bool.true_and]
theorem probsB_at {l : List GRat} (h : probsB l = true) {i : Nat} (hi : i < l.length) : probB (at' l (i : Int)) = true := of_decide_eq_true h i hi
theorem common_probs_s {l : List GRat} {Q : Bool → Prop} (hl : l.length ≤ 1099511627776) (hf : ∀ i : Nat, i < l.length → Fr (at' l (i : Int))) (h : Q (probsB l)) : common_probs_W l Q := by
  show slices_IndexFunc___api_Rat_api_Rat__common_probs_1_W l _
  refine scanW (fun i => probB (at' l (i : Int)) = false) (by omega) (fun i next hi hI hnx => ⟨⟨by omega, by omega⟩, rational_Prob_s (hf i hi) (condB (fun hb => ?_) (fun hb => hnx (by simpa using hb)))⟩) (fun hall => ?_)
  · have : probsB l = false := decide_eq_false fun hh => by have := hh i hi; rw [this] at hb; cases hb
    rw [this] at h
    show Q (!decide (0 ≤ (i : Int)))
    rw [decide_eq_true (by omega)]; exact h
  · have : probsB l = true := decide_eq_true fun i hi => by simpa using hall i hi
    rw [this] at h; exact h
theorem ref45_probs_s {l : List GRat} {k : Nat} {Q : Bool → Prop} (hl : l.length ≤ 1099511627776) (hf : ∀ i : Nat, i < l.length → Fr (at' l (i : Int)) ∧ RB k (valR (at' l (i : Int)))) (hk : k + 65 ≤ cap) (h : Q (probsB l)) : ref45_probs_W l Q := by
  refine ⟨fun x => ∃ i : Nat, x = i ∧ i ≤ l.length ∧ ∀ j : Nat, j < i → probB (at' l (j : Int)) = true, fun x => l.length - x.toNat, ⟨0, rfl, by omega, fun j hj => absurd hj (by omega)⟩, ?_⟩
  rintro _ ⟨i, rfl, hi, hI⟩
  refine condT (fun hc => ⟨⟨by omega, hc⟩, ref02_Prob_s (hf i (by omega)).1 (hf i (by omega)).2 hk (condB (fun hb => ?_) (fun hb => ⟨by unfold rng; omega, ⟨i + 1, by omega, by omega, fun j hj => ?_⟩, by dsimp only; omega⟩))⟩) (fun hc => ?_)
  · have : probsB l = false := decide_eq_false fun hh => by have := hh i (by omega); rw [this] at hb; cases hb
    rw [this] at h; exact h
  · rcases Nat.lt_or_ge j i with h1 | h1
    · exact hI j h1
    · obtain rfl : j = i := by omega
      simpa using hb
  · have : probsB l = true := decide_eq_true fun j hj => hI j (by omega)
    rw [this] at h; exact h
/-- n over k, as the loop computes it. -/
def chz (n : Int) : Nat → Int
  | 0 => 1
  | x + 1 => Int.tdiv (chz n x * (n - x)) (x + 1)
theorem chz_small : ∀ n : Nat, n < 4 → ∀ x : Nat, x < 4 → (-1000 < chz n x ∧ chz n x < 1000) ∧ (-1000 < chz n x * (n - x) ∧ chz n x * (n - x) < 1000) ∧ (x ≤ n → 0 < chz n x) := by decide
theorem chz_four : ∀ n : Nat, n < 4 → ∀ x : Nat, x < 4 → (-1000 < chz n (x + 1) ∧ chz n (x + 1) < 1000) := by decide
theorem choose_loop {n k : Nat} (hn : n < 4) (hk : k < 4) {Q : Int → Prop} (h : Q (chz n k)) :
    loopW (σ := Int × Int) (1, 0) fun ⟨out, x⟩ next1 =>
    condW (decide (x < (k : Int)))
      (rng ((n : Int) - x) ∧
      rng (out * ((n : Int) - x)) ∧
      rng (x + 1) ∧
      ((x + 1) ≠ 0 ∧ rng (Int.tdiv (out * ((n : Int) - x)) (x + 1))) ∧
      rng (x + 1) ∧
      next1 ((Int.tdiv (out * ((n : Int) - x)) (x + 1)), (x + 1)))
      (Q out) := by
  refine ⟨fun y => ∃ x : Nat, x ≤ k ∧ y = (chz n x, (x : Int)), fun y => k - y.2.toNat, ⟨0, by omega, rfl⟩, ?_⟩
  rintro _ ⟨x, hx, rfl⟩
  refine condT (fun hc => ?_) (fun hc => ?_)
  · have h1 := chz_small n hn x (by omega)
    have h2 := chz_four n hn x (by omega)
    exact ⟨by unfold rng; omega, by unfold rng; omega, by unfold rng; omega, ⟨by omega, by unfold rng; rw [show Int.tdiv (chz n x * ((n : Int) - x)) (x + 1) = chz n (x + 1) from rfl]; omega⟩, by unfold rng; omega, ⟨x + 1, by omega, rfl⟩, by dsimp only; omega⟩
  · obtain rfl : x = k := by omega
    exact h
theorem common_choose_s {n k : Nat} (hn : n < 4) (hk : k < 4) {Q : Int → Prop} (h : Q (chz n k)) : common_choose_W n k Q := choose_loop hn hk h
theorem ref45_choose_s {n k : Nat} (hn : n < 4) (hk : k < 4) {Q : Int → Prop} (h : Q (chz n k)) : ref45_choose_W n k Q := choose_loop hn hk h
theorem rest_d {a : GRat} {p : Rat} {k : Nat} {K : GRat → Prop} (ha : Rp k a p) (hk : k + 65 ≤ cap) (h : Rp (k + 65) (ratOf (1 - p)) (1 - p) → K (ratOf (1 - p))) : detW (ref45_rest_W a) K := by
  refine ⟨ratOf (1 - p), of_qd (by unfold rng; omega) fun h1 => sub_qd h1 ha (by simp only [cap] at hk ⊢; omega) fun _ => rfl, h ?_⟩
  exact .of ((RB_sub (RB_of_int (n := 1) (by unfold rng; omega)) ha.2.2).mono (by omega)) hk

/-! ### Greek letters -/
def restR (p : GRat) (f : List GRat) : Nat → Rat
  | 0 => valR p
  | k + 1 => restR p f k * valR (at' f (k : Int))
def ownR (p : GRat) (f : List GRat) (k : Nat) : Rat := if k < f.length then restR p f k * (1 - valR (at' f (k : Int))) else restR p f k
def outR (p : GRat) (f : List GRat) (k : Nat) : Rat := ownR p f k / ((chz (f.length : Nat) k : Int) : Rat)
def greekM (p : GRat) (f : List GRat) : List GRat × Int :=
  if probB p = false ∨ probsB f = false then ([], 3) else if f.length < 1 ∨ 3 < f.length then ([], 11)
  else ((List.range (f.length + 1)).map (fun k => ratOf (outR p f k)), 0)
/-- Fractions of forty words. -/
def Sh (a : GRat) : Prop := Rp 1281 a (valR a)
def Shs (l : List GRat) : Prop := l.length ≤ 60 ∧ ∀ i : Nat, i < l.length → Sh (at' l (i : Int))
theorem rest_RB {p : GRat} {f : List GRat} (hp : Sh p) (hf : ∀ i : Nat, i < f.length → Sh (at' f (i : Int))) : ∀ k, k ≤ f.length → RB (1281 * (k + 1)) (restR p f k)
  | 0, _ => hp.2.2
  | k + 1, h => (RB_mul (rest_RB hp hf k (by omega)) (hf k (by omega)).2.2).mono (by omega)
theorem own_RB {p : GRat} {f : List GRat} (hp : Sh p) (hf : ∀ i : Nat, i < f.length → Sh (at' f (i : Int))) {k : Nat} (h : k ≤ f.length) : RB (1281 * (k + 1) + 1346) (ownR p f k) := by
  unfold ownR
  split
  · rename_i hk
    exact (RB_mul (rest_RB hp hf k h) (RB_sub (RB_of_int (n := 1) (by unfold rng; omega)) (hf k hk).2.2)).mono (by omega)
  · exact (rest_RB hp hf k h).mono (by omega)
theorem chz_rng {n k : Nat} (hn : n < 4) (hk : k < 4) : rng (chz n k) := by
  have := (chz_small n hn k hk).1
  unfold rng; omega
theorem out_RB {p : GRat} {f : List GRat} (hp : Sh p) (hf : ∀ i : Nat, i < f.length → Sh (at' f (i : Int))) {k : Nat} (h : k ≤ f.length) (h3 : f.length ≤ 3) : RB (1281 * (k + 1) + 1410) (outR p f k) :=
  (RB_div (own_RB hp hf h) (RB_of_int (chz_rng (by omega) (by omega)))).mono (by omega)
theorem chz_ne {n k : Nat} (hn : n < 4) (hk : k ≤ n) : ((chz n k : Int) : Rat) ≠ 0 := by
  have := (chz_small n hn k (by omega)).2.2 hk
  intro e
  have h2 : ((chz n k : Int) : Rat) = ((0 : Int) : Rat) := e
  rw [Rat.intCast_inj] at h2
  omega
theorem greekM_len {p : GRat} {f : List GRat} : (greekM p f).1.length ≤ 4 := by
  unfold greekM
  split
  · simp
  · split
    · simp
    · rename_i h; simp; omega
theorem greekM_Rp {p : GRat} {f : List GRat} (hp : Sh p) (hf : ∀ i : Nat, i < f.length → Sh (at' f (i : Int))) : ∀ i : Nat, i < (greekM p f).1.length → Rp 10000 (at' (greekM p f).1 (i : Int)) (outR p f i) := by
  unfold greekM
  intro i hi
  split at hi
  · simp at hi
  · split at hi
    · simp at hi
    · rename_i h1 h2
      rw [if_neg h1, if_neg h2]
      simp only [List.length_map, List.length_range] at hi
      show Rp 10000 (at' ((List.range (f.length + 1)).map _) (i : Int)) _
      rw [at_mapR hi]
      exact .of ((out_RB hp hf (by omega) (by omega)).mono (by omega)) (by decide)
set_option maxHeartbeats 1000000 in
theorem ref45_Greek_s {p : GRat} {f : List GRat} {Q : List GRat → Int → Prop} (hp : Sh p) (hl : f.length ≤ 60) (hf : ∀ i : Nat, i < f.length → Sh (at' f (i : Int))) (h : Q (greekM p f).1 (greekM p f).2) : ref45_Greek_W p f Q := by
  refine ⟨fun y => y = decide (probB p = false ∨ probsB f = false), ?_, ?_⟩
  · refine ref02_Prob_s hp.1 hp.2.2 (by decide) (condB (fun hc => ?_) (fun hc => ref45_probs_s (by omega) (fun i hi => ⟨(hf i hi).1, (hf i hi).2.2⟩) (by decide) ?_))
    · rw [decide_eq_true (Or.inl (by simpa using hc))]
    · simp only [Bool.not_eq_false'] at hc
      rw [hc]
      cases probsB f <;> rfl
  · rintro _ rfl
    unfold greekM at h
    refine condT (fun hc => ?_) (fun hc => ?_)
    · rw [if_pos hc] at h; exact h
    rw [if_neg hc] at h
    refine ⟨fun y => y = decide (f.length < 1 ∨ 3 < f.length), ?_, ?_⟩
    · refine condT (fun h1 => ?_) (fun h1 => ?_)
      · rw [decide_eq_true (Or.inl (by omega))]
      · exact decide_eq_decide.2 (by omega)
    · rintro _ rfl
      refine condT (fun h1 => ?_) (fun h1 => ?_)
      · rw [if_pos h1] at h; exact h
      rw [if_neg h1] at h
      rw [not_or] at hc
      have hpo := probB_ok (a := p) (by simpa using hc.1)
      refine ⟨by unfold rng; omega, ?_⟩
      refine ⟨fun y => ∃ k : Nat, k ≤ f.length + 1 ∧ y = ((k : Int) + 1, ratOf (restR p f (min k f.length)), (List.range k).map (fun k => ratOf (outR p f k))), fun y => f.length + 2 - y.1.toNat, ⟨0, by omega, ?_⟩, ?_⟩
      · rw [Nat.zero_min, show ratOf (restR p f 0) = p from hpo.1.symm]; rfl
      rintro _ ⟨k, hk, rfl⟩
      refine condT (fun h2 => ?_) (fun h2 => ?_)
      · have hk2 : k ≤ f.length := by omega
        rw [Nat.min_eq_left hk2]
        have hr := Rp.of (rest_RB hp hf k hk2) (show 1281 * (k + 1) ≤ cap by simp only [cap]; omega)
        have hown := Rp.of (own_RB hp hf hk2) (show 1281 * (k + 1) + 1346 ≤ cap by simp only [cap]; omega)
        have e1 : ((k : Int) + 1 - 1) = (k : Int) := by omega
        have e2 : ((f.length : Int) + 1 - 1) = ((f.length : Nat) : Int) := by omega
        refine ⟨fun y => y = (ratOf (restR p f (min (k + 1) f.length)), ratOf (ownR p f k)), ?_, ?_⟩
        · refine condT (fun h3 => ?_) (fun h3 => ?_)
          · have h4 : k < f.length := by omega
            rw [e1]
            refine ⟨by unfold rng; omega, ⟨by omega, by omega⟩, rest_d (hf k h4) (by decide) fun h5 => mul_qd hr h5 (by simp only [cap]; omega) fun h6 => ⟨by unfold rng; omega, ⟨by omega, by omega⟩, mul_qd hr (hf k h4) (by simp only [cap]; omega) fun h7 => ?_⟩⟩
            rw [Nat.min_eq_left (show k + 1 ≤ f.length by omega), ownR, if_pos h4]
            rfl
          · have h4 : k = f.length := by omega
            rw [Nat.min_eq_right (show f.length ≤ k + 1 by omega), ownR, if_neg (by omega), h4]
        · rintro _ rfl
          rw [e1, e2]
          refine ⟨by unfold rng; omega, by unfold rng; omega, ⟨_, ref45_choose_s (by omega) (by omega) rfl, of_qd (chz_rng (by omega) (by omega)) fun h5 => div_qd hown h5 (by simp only [cap]; omega) (chz_ne (by omega) (by omega)) fun h6 => ⟨by simp; omega, by unfold rng; omega, ⟨k + 1, by omega, ?_⟩, by dsimp only; omega⟩⟩⟩
          rw [List.range_succ, List.map_append]
          rfl
      · obtain rfl : k = f.length + 1 := by omega
        exact h
end Go.Gg
namespace Go.Gg

theorem Shs_two {p q : GRat} (hp : Sh p) (hq : Sh q) : ∀ i : Nat, i < [p, q].length → Sh (at' [p, q] (i : Int)) := fun i hi => by
  match i with
  | 0 => exact hp
  | 1 => exact hq
  | i + 2 => exact absurd hi (by simp)
set_option maxHeartbeats 1000000 in
theorem common_Greek_s {p : GRat} {f : List GRat} {Q : List GRat → Option Int → Prop} (hp : Sh p) (hl : f.length ≤ 60) (hf : ∀ i : Nat, i < f.length → Sh (at' f (i : Int))) (h : Q (greekM p f).1 (errO (greekM p f).2)) : common_Greek_W p f Q := by
  refine ⟨fun y => y = decide (probB p = false ∨ probsB f = false), ?_, ?_⟩
  · refine common_probs_s (by simp) (fun i hi => ?_) (condB (fun hc => ?_) (fun hc => common_probs_s (by omega) (fun i hi => (hf i hi).1) ?_))
    · match i with
      | 0 => exact hp.1
      | i + 1 => exact absurd hi (by simp)
    · rw [probsB_one] at hc
      rw [decide_eq_true (Or.inl (by simpa using hc))]
    · rw [probsB_one] at hc
      simp only [Bool.not_eq_false'] at hc
      rw [hc]
      cases probsB f <;> rfl
  · rintro _ rfl
    unfold greekM at h
    refine condT (fun hc => ?_) (fun hc => ?_)
    · rw [if_pos hc] at h; exact h
    rw [if_neg hc] at h
    refine ⟨fun y => y = decide (f.length < 1 ∨ 3 < f.length), ?_, ?_⟩
    · refine condT (fun h1 => ?_) (fun h1 => ?_)
      · rw [decide_eq_true (Or.inl (by omega))]
      · exact decide_eq_decide.2 (by omega)
    · rintro _ rfl
      refine condT (fun h1 => ?_) (fun h1 => ?_)
      · rw [if_pos h1] at h; exact h
      rw [if_neg h1] at h
      rw [not_or] at hc
      have hpo := probB_ok (a := p) (by simpa using hc.1)
      refine ⟨by unfold rng; omega, ?_⟩
      refine ⟨fun y => ∃ k : Nat, k ≤ f.length + 1 ∧ y = ((k : Int) + 1, ratOf (restR p f (min k f.length)), (List.range k).map (fun k => ratOf (outR p f k))), fun y => f.length + 2 - y.1.toNat, ⟨0, by omega, ?_⟩, ?_⟩
      · rw [Nat.zero_min, show ratOf (restR p f 0) = p from hpo.1.symm]; rfl
      rintro _ ⟨k, hk, rfl⟩
      refine condT (fun h2 => ?_) (fun h2 => ?_)
      · have hk2 : k ≤ f.length := by omega
        rw [Nat.min_eq_left hk2]
        have hr := Rp.of (rest_RB hp hf k hk2) (show 1281 * (k + 1) ≤ cap by simp only [cap]; omega)
        have hown := Rp.of (own_RB hp hf hk2) (show 1281 * (k + 1) + 1346 ≤ cap by simp only [cap]; omega)
        have e1 : ((k : Int) + 1 - 1) = (k : Int) := by omega
        have e2 : ((f.length : Int) + 1 - 1) = ((f.length : Nat) : Int) := by omega
        refine ⟨fun y => y = (ratOf (restR p f (min (k + 1) f.length)), ratOf (ownR p f k)), ?_, ?_⟩
        · refine condT (fun h3 => ?_) (fun h3 => ?_)
          · have h4 : k < f.length := by omega
            rw [e1]
            refine of_pd (by unfold rng; omega) fun h0 => ⟨by unfold rng; omega, ⟨by omega, by omega⟩, sub_pd h0 (hf k h4) (by decide) fun h5 => mul_pd hr h5 (by simp only [cap]; omega) fun h6 => ⟨by unfold rng; omega, ⟨by omega, by omega⟩, mul_pd hr (hf k h4) (by simp only [cap]; omega) fun h7 => ?_⟩⟩
            rw [Nat.min_eq_left (show k + 1 ≤ f.length by omega), ownR, if_pos h4]
            rfl
          · have h4 : k = f.length := by omega
            rw [Nat.min_eq_right (show f.length ≤ k + 1 by omega), ownR, if_neg (by omega), h4]
        · rintro _ rfl
          rw [e1, e2]
          refine ⟨by unfold rng; omega, by unfold rng; omega, ⟨_, common_choose_s (by omega) (by omega) rfl, of_pd (chz_rng (by omega) (by omega)) fun h5 => div_pd hown h5 (by simp only [cap]; omega) (chz_ne (by omega) (by omega)) fun h6 => condB (fun hh => by cases hh) (fun _ => ⟨by simp; omega, by unfold rng; omega, ⟨k + 1, by omega, ?_⟩, by dsimp only; omega⟩)⟩⟩
          rw [List.range_succ, List.map_append]
          rfl
      · obtain rfl : k = f.length + 1 := by omega
        exact h
/-! ### The beta factor -/
/-- The own and the common part, and the error's number. -/
def betaM (p b : GRat) : GRat × GRat × Int :=
  if probB p = false ∨ probB b = false then (ratOf 0, ratOf 0, 3)
  else if 1 - valR b * valR p = 0 then (ratOf 0, ratOf (valR b * valR p), 0)
  else (ratOf ((valR p - valR b * valR p) / (1 - valR b * valR p)), ratOf (valR b * valR p), 0)
theorem common_Beta_s {p b : GRat} {Q : GRat → GRat → Option Int → Prop} (hp : Sh p) (hb : Sh b) (h : Q (betaM p b).1 (betaM p b).2.1 (errO (betaM p b).2.2)) : common_Beta_W p b Q := by
  unfold betaM at h
  refine common_probs_s (by simp) (fun i hi => (Shs_two hp hb i hi).1) ?_
  rw [probsB_two]
  refine condB (fun hc => ?_) (fun hc => ?_)
  · rw [if_pos (by cases h1 : probB p <;> cases h2 : probB b <;> simp_all)] at h; exact h
  rw [if_neg (by cases h1 : probB p <;> cases h2 : probB b <;> simp_all)] at h
  refine mul_p hb hp (by decide) fun h1 => of_pd (by unfold rng; omega) fun h2 => sub_pd h2 h1 (by decide) fun h3 => sign_p h3 (condE (fun hz => ?_) (fun hz => ?_))
  · rw [if_pos (show 1 - valR b * valR p = 0 from sgnR_eq.1 hz)] at h; exact h
  · have hz2 : 1 - valR b * valR p ≠ 0 := fun e => hz (sgnR_eq.2 e)
    rw [if_neg hz2] at h
    exact sub_pd hp h1 (by decide) fun h4 => div_pd h4 h3 (by decide) hz2 fun h5 => h
theorem ref45_rest_s {a : GRat} {p : Rat} {k : Nat} {Q : GRat → Prop} (ha : Rp k a p) (hk : k + 65 ≤ cap) (h : Rp (k + 65) (ratOf (1 - p)) (1 - p) → Q (ratOf (1 - p))) : ref45_rest_W a Q := by
  refine of_qd (by unfold rng; omega) fun h1 => sub_qd h1 ha (by simp only [cap] at hk ⊢; omega) fun h2 => h ?_
  exact .of ((RB_sub (RB_of_int (n := 1) (by unfold rng; omega)) ha.2.2).mono (by omega)) hk
theorem ref45_Beta_s {p b : GRat} {Q : GRat → GRat → Int → Prop} (hp : Sh p) (hb : Sh b) (h : Q (betaM p b).1 (betaM p b).2.1 (betaM p b).2.2) : ref45_Beta_W p b Q := by
  unfold betaM at h
  refine ⟨fun y => y = decide (probB p = false ∨ probB b = false), ?_, ?_⟩
  · refine ref02_Prob_s hp.1 hp.2.2 (by decide) (condB (fun hc => ?_) (fun hc => ref02_Prob_s hb.1 hb.2.2 (by decide) ?_))
    · rw [decide_eq_true (Or.inl (by simpa using hc))]
    · simp only [Bool.not_eq_false'] at hc
      rw [hc]
      cases probB b <;> rfl
  rintro _ rfl
  refine condT (fun hc => ?_) (fun hc => ?_)
  · rw [if_pos hc] at h; exact h
  rw [if_neg hc] at h
  refine mul_q hb hp (by decide) fun h1 => ref45_rest_s h1 (by decide) fun h3 => sign_q h3 (condE (fun hz => ?_) (fun hz => ?_))
  · rw [if_pos (sgnR_eq.1 hz)] at h; exact h
  · have hz2 : 1 - valR b * valR p ≠ 0 := fun e => hz (sgnR_eq.2 e)
    rw [if_neg hz2] at h
    exact sub_qd hp h1 (by decide) fun h4 => rest_d h1 (by decide) fun h3 => div_qd h4 h3 (by decide) hz2 fun h5 => h
/-! ### Totals -/
def totT (q : List GRat) (i : Nat) : Rat := valR (at' q (i : Int)) * ((chz ((q.length - 1 : Nat) : Int) i : Int) : Rat)
def totalM (q : List GRat) : GRat × Int :=
  if q.length < 2 ∨ 4 < q.length then (ratOf 0, 11) else if probsB q = false then (ratOf 0, 3) else (ratOf (sumTo (totT q) q.length), 0)
theorem totT_RB {q : List GRat} {B : Nat} (hq : ∀ i : Nat, i < q.length → Rp B (at' q (i : Int)) (valR (at' q (i : Int)))) (h4 : q.length ≤ 4) {i : Nat} (hi : i < q.length) : RB (B + 64) (totT q i) :=
  RB_mul (hq i hi).2.2 (RB_of_int (chz_rng (by omega) (by omega)))
theorem sum_le {q : List GRat} {B : Nat} (hq : ∀ i : Nat, i < q.length → Rp B (at' q (i : Int)) (valR (at' q (i : Int)))) (h4 : q.length ≤ 4) {i : Nat} (hi : i ≤ q.length) : RB (4 * (B + 65) + 1) (sumTo (totT q) i) :=
  (sumTo_RB i (fun j hj => totT_RB hq h4 (by omega))).mono (by
    have := Nat.mul_le_mul_right (B + 64 + 1) (show i ≤ 4 by omega)
    omega)
theorem common_Total_s {q : List GRat} {B : Nat} {Q : GRat → Option Int → Prop} (hB1 : 1 ≤ B) (hB : B ≤ 1000000) (hl : q.length ≤ 60) (hq : ∀ i : Nat, i < q.length → Rp B (at' q (i : Int)) (valR (at' q (i : Int)))) (h : Q (totalM q).1 (errO (totalM q).2)) : common_Total_W q Q := by
  unfold totalM at h
  refine ⟨fun y => y = decide (q.length < 2 ∨ 4 < q.length), ?_, ?_⟩
  · exact condT (fun h1 => (decide_eq_true (Or.inl (by omega))).symm) (fun h1 => decide_eq_decide.2 (by omega))
  rintro _ rfl
  refine condT (fun hc => ?_) (fun hc => ?_)
  · rw [if_pos hc] at h; exact h
  rw [if_neg hc] at h
  refine common_probs_s (by omega) (fun i hi => (hq i hi).1) (condB (fun hb => ?_) (fun hb => ?_))
  · rw [if_pos (by simpa using hb)] at h; exact h
  rw [if_neg (by simpa using hb)] at h
  refine loopUp (n := q.length) (fun i => ((i : Int), ratOf (sumTo (totT q) i))) (fun y => y.1) 0 (fun i => by omega) rfl ?_ ?_
  · intro i next hi hn
    have e1 : ((q.length : Int) - 1) = ((q.length - 1 : Nat) : Int) := by omega
    refine condT (fun hc2 => ⟨⟨by omega, hc2⟩, by unfold rng; omega, ?_⟩) (fun hc2 => absurd (show (i : Int) < (q.length : Int) by omega) hc2)
    rw [e1]
    have hs := Rp.of (sum_le hq (by omega) (show i ≤ q.length by omega)) (show 4 * (B + 65) + 1 ≤ cap by simp only [cap]; omega)
    refine ⟨_, common_choose_s (by omega) (by omega) rfl, of_pd (chz_rng (by omega) (by omega)) fun h5 => mul_pd (hq i hi) h5 (by simp only [cap]; omega) fun h6 => add_pd hs h6 (by simp only [cap]; omega) fun h7 => ⟨by unfold rng; omega, hn⟩⟩
  · intro next
    exact condT (fun hc2 => absurd hc2 (by omega)) (fun _ => h)
theorem ref45_Total_s {q : List GRat} {B : Nat} {Q : GRat → Int → Prop} (hB1 : 1 ≤ B) (hB : B ≤ 1000000) (hl : q.length ≤ 60) (hq : ∀ i : Nat, i < q.length → Rp B (at' q (i : Int)) (valR (at' q (i : Int)))) (h : Q (totalM q).1 (totalM q).2) : ref45_Total_W q Q := by
  unfold totalM at h
  refine ⟨fun y => y = decide (q.length < 2 ∨ 4 < q.length), ?_, ?_⟩
  · exact condT (fun h1 => (decide_eq_true (Or.inl (by omega))).symm) (fun h1 => decide_eq_decide.2 (by omega))
  rintro _ rfl
  refine condT (fun hc => ?_) (fun hc => ?_)
  · rw [if_pos hc] at h; exact h
  rw [if_neg hc] at h
  refine ref45_probs_s (by omega) (fun i hi => ⟨(hq i hi).1, (hq i hi).2.2⟩) (by simp only [cap]; omega) (condB (fun hb => ?_) (fun hb => ?_))
  · rw [if_pos (by simpa using hb)] at h; exact h
  rw [if_neg (by simpa using hb)] at h
  refine loopUp (n := q.length) (fun i => ((i : Int), ratOf (sumTo (totT q) i))) (fun y => y.1) 0 (fun i => by omega) rfl ?_ ?_
  · intro i next hi hn
    have e1 : ((q.length : Int) - 1) = ((q.length - 1 : Nat) : Int) := by omega
    refine condT (fun hc2 => ⟨⟨by omega, hc2⟩, by unfold rng; omega, ?_⟩) (fun hc2 => absurd (show (i : Int) < (q.length : Int) by omega) hc2)
    rw [e1]
    have hs := Rp.of (sum_le hq (by omega) (show i ≤ q.length by omega)) (show 4 * (B + 65) + 1 ≤ cap by simp only [cap]; omega)
    refine ⟨_, ref45_choose_s (by omega) (by omega) rfl, of_qd (chz_rng (by omega) (by omega)) fun h5 => mul_qd (hq i hi) h5 (by simp only [cap]; omega) fun h6 => add_qd hs h6 (by simp only [cap]; omega) fun h7 => ⟨by unfold rng; omega, hn⟩⟩
  · intro next
    exact condT (fun hc2 => absurd hc2 (by omega)) (fun _ => h)
end Go.Gg
namespace Go.Gg

theorem law22_Short_s {x : GRat} {Q : Bool → Prop} (h : ∀ b, (b = true → x.Num.length ≤ 40 ∧ x.Den.length ≤ 40) → Q b) : law22_Short_W x Q :=
  condT (fun h1 => h _ fun h2 => ⟨by omega, by have := of_decide_eq_true h2; omega⟩) (fun _ => h _ fun hh => by cases hh)
theorem Sh_of {a : GRat} (hw : WrR a) (h : a.Num.length ≤ 40 ∧ a.Den.length ≤ 40) : Sh a := .self ⟨hw.1, hw.2, by omega, by omega⟩ ((RB_valR hw.1 hw.2 h.1 h.2).mono (by omega))
theorem law45_short_s {l : List GRat} {Q : Bool → Prop} (la : l.length ≤ 9223372036854775807) (hw : WrL l) (h : ∀ b, (b = true → l.length ≤ 60 ∧ ∀ i : Nat, i < l.length → Sh (at' l (i : Int))) → Q b) : law45_short_W l Q := by
  refine scanW (fun i => ¬ Sh (at' l (i : Int))) la (fun i next hi hI hnx => ⟨⟨by omega, by omega⟩, law22_Short_s fun b hb => condB (fun _ => h _ fun hh => by cases hh) (fun hb2 => hnx (fun hn => hn (Sh_of (hw i hi) (hb (by simpa using hb2)))))⟩) (fun hall => h _ fun hd => ⟨by have := of_decide_eq_true hd; omega, fun i hi => Classical.not_not.1 (hall i hi)⟩)
theorem law45_part_s {n d : Int} {Q : GRat → Prop} (hn : rng n) (hd : rng d) (h0 : d ≠ 0) (h : Q (ratOf ((n : Rat) / (d : Rat)))) : law45_part_W n d Q := ref02_Make_s hn hd (fun e => absurd e h0) fun _ => h
theorem base_Rat_same {a : GRat} {k : Nat} {q : Rat} {Q : Bool → Prop} (ha : Rp k a q) (h : Q true) : base_Rat_W a a Q := base_Rat_s ha.len.1 ha.len.2 (by rw [decide_eq_true rfl]; exact h)
theorem Sh_small {n d : Int} (hn : n.natAbs < 64) (hd : d.natAbs < 64) : Rp 12 (ratOf ((n : Rat) / (d : Rat))) ((n : Rat) / (d : Rat)) := by
  have h1 : ∀ m : Int, m.natAbs < 64 → RB 6 (m : Rat) := fun m hm => RB_int (by omega) hm
  exact .of ((RB_div (h1 n hn) (h1 d hd)).mono (by omega)) (by decide)
theorem Sh_ratOf {q : Rat} {k : Nat} (h : Rp k (ratOf q) q) (hk : k ≤ 1281) : Sh (ratOf q) := by
  unfold Sh
  rw [valR_ratOf]
  exact h.mono hk
theorem awake_beta : betaM (ratOf (((1 : Int) : Rat) / ((10 : Int) : Rat))) (ratOf (((1 : Int) : Rat) / ((2 : Int) : Rat))) = (ratOf (((1 : Int) : Rat) / ((19 : Int) : Rat)), ratOf (((1 : Int) : Rat) / ((20 : Int) : Rat)), 0) := by
  unfold betaM
  rw [probB_ratOf, probB_ratOf, valR_ratOf, valR_ratOf]
  rw [if_neg (by decide +kernel), if_neg (by decide +kernel)]
  have e1 : (((1 : Int) : Rat) / ((10 : Int) : Rat) - ((1 : Int) : Rat) / ((2 : Int) : Rat) * (((1 : Int) : Rat) / ((10 : Int) : Rat))) / (1 - ((1 : Int) : Rat) / ((2 : Int) : Rat) * (((1 : Int) : Rat) / ((10 : Int) : Rat))) = ((1 : Int) : Rat) / ((19 : Int) : Rat) := by decide +kernel
  have e2 : ((1 : Int) : Rat) / ((2 : Int) : Rat) * (((1 : Int) : Rat) / ((10 : Int) : Rat)) = ((1 : Int) : Rat) / ((20 : Int) : Rat) := by decide +kernel
  rw [e1, e2]
theorem awake_greek : greekM (ratOf ((1 : Int) : Rat)) [ratOf (((1 : Int) : Rat) / ((2 : Int) : Rat)), ratOf (((1 : Int) : Rat) / ((3 : Int) : Rat))] = ([ratOf (((1 : Int) : Rat) / ((2 : Int) : Rat)), ratOf (((1 : Int) : Rat) / ((6 : Int) : Rat)), ratOf (((1 : Int) : Rat) / ((6 : Int) : Rat))], 0) := by
  have h2 : probsB [ratOf (((1 : Int) : Rat) / ((2 : Int) : Rat)), ratOf (((1 : Int) : Rat) / ((3 : Int) : Rat))] = true := by
    rw [probsB_two, probB_ratOf, probB_ratOf]; decide +kernel
  have h1 : probB (ratOf ((1 : Int) : Rat)) = true := by rw [probB_ratOf]; decide +kernel
  unfold greekM
  rw [if_neg (by rw [h1, h2]; simp), if_neg (by simp)]
  have key : ∀ (p : GRat) (f : List GRat), f.length = 2 → valR p = 1 → valR (at' f ((0 : Nat) : Int)) = ((1 : Int) : Rat) / ((2 : Int) : Rat) → valR (at' f ((1 : Nat) : Int)) = ((1 : Int) : Rat) / ((3 : Int) : Rat) →
      (List.range (f.length + 1)).map (fun k => ratOf (outR p f k)) = [ratOf (((1 : Int) : Rat) / ((2 : Int) : Rat)), ratOf (((1 : Int) : Rat) / ((6 : Int) : Rat)), ratOf (((1 : Int) : Rat) / ((6 : Int) : Rat))] := by
    intro p f hl hp h0 h1
    have e : List.range 3 = [0, 1, 2] := rfl
    rw [hl, e]
    simp only [List.map_cons, List.map_nil, outR, ownR, hl, restR, hp, h0, h1]
    have o0 : (if 0 < 2 then 1 * (1 - ((1 : Int) : Rat) / ((2 : Int) : Rat)) else 1) / ((chz ((2 : Nat) : Int) 0 : Int) : Rat) = ((1 : Int) : Rat) / ((2 : Int) : Rat) := by decide +kernel
    have o1 : (if 1 < 2 then 1 * (((1 : Int) : Rat) / ((2 : Int) : Rat)) * (1 - ((1 : Int) : Rat) / ((3 : Int) : Rat)) else 1 * (((1 : Int) : Rat) / ((2 : Int) : Rat))) / ((chz ((2 : Nat) : Int) 1 : Int) : Rat) = ((1 : Int) : Rat) / ((6 : Int) : Rat) := by decide +kernel
    have o2 : (1 * (((1 : Int) : Rat) / ((2 : Int) : Rat)) * (((1 : Int) : Rat) / ((3 : Int) : Rat))) / ((chz ((2 : Nat) : Int) 2 : Int) : Rat) = ((1 : Int) : Rat) / ((6 : Int) : Rat) := by decide +kernel
    rw [if_neg (show ¬ 2 < 2 by omega), o0, o1, o2]
  exact congrArg (fun l => (l, (0 : Int))) (key _ _ rfl (valR_ratOf _) (valR_ratOf _) (valR_ratOf _))
theorem law45_awake_s {Q : Bool → Prop} (h : Q true) : law45_awake_W Q := by
  have r : ∀ n : Int, n.natAbs < 64 → rng n := fun n hn => by unfold rng; omega
  have pt : ∀ {n d : Int} {Q : GRat → Prop}, n.natAbs < 64 → d.natAbs < 64 → d ≠ 0 → Q (ratOf ((n : Rat) / (d : Rat))) → law45_part_W n d Q := fun h1 h2 h3 h4 => law45_part_s (r _ h1) (r _ h2) h3 h4
  refine pt (by decide) (by decide) (by decide) (pt (by decide) (by decide) (by decide) ?_)
  refine common_Beta_s (Sh_ratOf (Sh_small (by decide) (by decide)) (by omega)) (Sh_ratOf (Sh_small (by decide) (by decide)) (by omega)) ?_
  refine of_q (by unfold rng; omega) fun h1 => pt (by decide) (by decide) (by decide) (pt (by decide) (by decide) (by decide) ?_)
  refine common_Greek_s (Sh_ratOf h1 (by omega)) (by simp) (Shs_two (Sh_ratOf (Sh_small (by decide) (by decide)) (by omega)) (Sh_ratOf (Sh_small (by decide) (by decide)) (by omega))) ?_
  rw [awake_beta, awake_greek]
  refine condB (fun _ => condB (fun _ => ?_) (fun hh => by cases hh)) (fun hh => by cases hh)
  have same : ∀ {n d : Int} {K : Bool → Prop}, n.natAbs < 64 → d.natAbs < 64 → K true → detW (base_Rat_W (ratOf ((n : Rat) / (d : Rat))) (ratOf ((n : Rat) / (d : Rat)))) K := fun h1 h2 h3 => ⟨true, base_Rat_same (Sh_small h1 h2) rfl, h3⟩
  refine ⟨_, pt (by decide) (by decide) (by decide) rfl, same (by decide) (by decide) (condB (fun _ => ?_) (fun hh => by cases hh))⟩
  refine ⟨_, pt (by decide) (by decide) (by decide) rfl, same (by decide) (by decide) (condB (fun _ => ?_) (fun hh => by cases hh))⟩
  refine ⟨_, pt (by decide) (by decide) (by decide) rfl, _, pt (by decide) (by decide) (by decide) rfl, _, pt (by decide) (by decide) (by decide) rfl, true, base_Rats_same (by simp) (fun i hi => ?_) rfl, h⟩
  match i with
  | 0 => exact (Sh_small (n := 1) (d := 2) (by decide) (by decide)).len
  | 1 => exact (Sh_small (n := 1) (d := 6) (by decide) (by decide)).len
  | 2 => exact (Sh_small (n := 1) (d := 6) (by decide) (by decide)).len
  | i + 3 => exact absurd hi (by simp)
theorem unav_lens_b {p b : GRat} (hp : Sh p) (hb : Sh b) : (∃ k q, Rp k (betaM p b).1 q) ∧ ∃ k q, Rp k (betaM p b).2.1 q := by
  have h1 := RB_mul hb.2.2 hp.2.2
  unfold betaM
  split
  · exact ⟨⟨1, 0, .zero (by omega) (by decide)⟩, ⟨1, 0, .zero (by omega) (by decide)⟩⟩
  · split
    · exact ⟨⟨1, 0, .zero (by omega) (by decide)⟩, ⟨_, _, .of h1 (by decide)⟩⟩
    · exact ⟨⟨_, _, .of (RB_div (RB_sub hp.2.2 h1) (RB_sub (RB_of_int (n := 1) (by unfold rng; omega)) h1)) (by decide)⟩, ⟨_, _, .of h1 (by decide)⟩⟩
theorem totalM_Rp {q : List GRat} {B : Nat} (hB : B ≤ 1000000) (hq : ∀ i : Nat, i < q.length → Rp B (at' q (i : Int)) (valR (at' q (i : Int)))) : ∃ k r, Rp k (totalM q).1 r := by
  unfold totalM
  split
  · exact ⟨1, 0, .zero (by omega) (by decide)⟩
  · split
    · exact ⟨1, 0, .zero (by omega) (by decide)⟩
    · exact ⟨_, _, .of (sum_le hq (by omega) (Nat.le_refl _)) (by simp only [cap]; omega)⟩
end Go.Gg
