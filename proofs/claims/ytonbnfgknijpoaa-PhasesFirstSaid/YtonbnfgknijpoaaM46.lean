/- Missions of phases: their checks, the program's and the reference's. Conditions: the numbers fit the machine. -/
import Derived.Test.YtonbnfgknijpoaaMf
import Derived.Test.YtonbnfgknijpoaaMa
import Derived.Test.YtonbnfgknijpoaaMBit
import Derived.Test.YtonbnfgknijpoaaWPphases
import Derived.Test.YtonbnfgknijpoaaWR46
import Derived.Test.YtonbnfgknijpoaaWH46
namespace Go.Gg

/-- What is known of a mission as it is read. -/
structure WrM (m : GMission) : Prop where
  lf : m.Phases.length ≤ 9223372036854775807
  lp : m.P.length ≤ 9223372036854775807
  lr : ∀ i : Nat, i < m.P.length → (at' m.P (i : Int)).length ≤ 9223372036854775807
  top : ∀ j : Nat, j < m.Phases.length → rng (at' m.Phases (j : Int)).Top
  wd : ∀ i : Nat, i < m.P.length → WrL (at' m.P (i : Int))
/-- The probabilities' words are few. -/
def FrM (m : GMission) : Prop := ∀ i : Nat, i < m.P.length → ∀ j : Nat, j < (at' m.P (i : Int)).length → Fr (at' (at' m.P (i : Int)) (j : Int)) ∧ RB 129 (valR (at' (at' m.P (i : Int)) (j : Int)))
abbrev nF (m : GMission) : Nat := m.Phases.length
def evt (m : GMission) : Int := (at' m.Phases 0).Vars
def phE (m : GMission) (j : Nat) : Int := if chkM (at' m.Phases (j : Int)) ≠ 0 then chkM (at' m.Phases (j : Int)) else if (at' m.Phases (j : Int)).Vars ≠ evt m then 11 else 0
def rowE (m : GMission) (i : Nat) : Int := if (at' m.P (i : Int)).length ≠ m.Phases.length then 11 else if ∃ j : Nat, j < (at' m.P (i : Int)).length ∧ probB (at' (at' m.P (i : Int)) (j : Int)) = false then 3 else 0
/-- The number of the first error of a mission. -/
def misE (m : GMission) : Int :=
  if m.Phases.length = 0 then 11 else if 6 < m.Phases.length then 4 else if firstE (phE m) m.Phases.length ≠ 0 then firstE (phE m) m.Phases.length
  else if 24 < evt m * (m.Phases.length : Int) then 4 else if (m.P.length : Int) ≠ evt m then 11 else firstE (rowE m) m.P.length
def histE (m : GMission) (l : List Int) : Int :=
  if misE m ≠ 0 then misE m else if l.length ≠ m.P.length then 11 else if ∃ i : Nat, i < l.length ∧ (at' l (i : Int) < 0 ∨ (m.Phases.length : Int) < at' l (i : Int)) then 3 else 0

theorem evt_ok {m : GMission} {j : Nat} (_ : j < m.Phases.length) (h : phE m j = 0) : FG (at' m.Phases (j : Int)) ∧ (at' m.Phases (j : Int)).Vars = evt m := by
  unfold phE at h
  split at h
  · rename_i h1; exact absurd h h1
  · rename_i h1
    have h1 : chkM (at' m.Phases (j : Int)) = 0 := Classical.not_not.1 h1
    split at h
    · cases h
    · rename_i h2; exact ⟨chk_ok.1 h1, Classical.not_not.1 h2⟩
theorem errO_ne {e : Int} (h : e ≠ 0) : errO e = some e := by unfold errO; rw [if_neg h]
theorem errO_zero : errO 0 = none := rfl

theorem phases_prob_s {l : List GRat} {Q : Bool → Prop} (ll : l.length ≤ 9223372036854775807) (hf : ∀ j : Nat, j < l.length → Fr (at' l (j : Int))) (h : Q (decide (∃ j : Nat, j < l.length ∧ probB (at' l (j : Int)) = false))) :
    slices_ContainsFunc___api_Rat_api_Rat__phases_Check_1_W l Q := by
  unfold slices_ContainsFunc___api_Rat_api_Rat__phases_Check_1_W slices_IndexFunc___api_Rat_api_Rat__phases_Check_1_W
  refine scanW (fun j => probB (at' l (j : Int)) = false) ll (fun j next hj hI hnx => ?_) (fun hall => ?_)
  · refine ⟨⟨by omega, by omega⟩, rational_Prob_s (hf j hj) (condB (fun hb => ?_) (fun hb => ?_))⟩
    · have e : decide ((0 : Int) ≤ (j : Int)) = true := decide_eq_true (by omega)
      show Q (decide ((0 : Int) ≤ (j : Int)))
      rw [e]
      rw [decide_eq_true ⟨j, hj, by simpa using hb⟩] at h
      exact h
    · exact hnx (by simpa using hb)
  · show Q (decide ((0 : Int) ≤ -1))
    rw [decide_eq_false (by rintro ⟨j, hj, hb⟩; exact hall j hj hb)] at h
    exact h
theorem phases_Check_s {m : GMission} {Q : Option Int → Prop} (w : WrM m) (hf : FrM m) (h : Q (errO (misE m))) : phases_Check_W m Q := by
  unfold misE at h
  refine condE (fun h0 => ?_) (fun h0 => ?_)
  · rw [if_pos (by omega)] at h; exact h
  rw [if_neg (by omega)] at h
  refine condT (fun h6 => ?_) (fun h6 => ?_)
  · rw [if_pos (by omega)] at h; exact h
  rw [if_neg (by omega)] at h
  refine ⟨⟨by omega, by omega⟩, ?_⟩
  refine scanW (fun j => phE m j ≠ 0) w.lf (fun j next hj hI hnx => ?_) (fun hall => ?_)
  · refine ⟨⟨by omega, by omega⟩, formula_Check_s (w.top j hj) ?_⟩
    have hz : ∀ i, i < j → phE m i = 0 := fun i hi => Classical.not_not.1 (hI i hi)
    have hit : phE m j ≠ 0 → Q (errO (phE m j)) := fun hne => by
      rw [firstE_hit hz hne _ hj, if_pos hne] at h; exact h
    rw [isSome_errO]
    refine condT (fun he => ?_) (fun he => condN (fun (hv : (at' m.Phases (j : Int)).Vars ≠ evt m) => ?_) (fun (hv : (at' m.Phases (j : Int)).Vars = evt m) => hnx ?_))
    · have e : phE m j = chkM (at' m.Phases (j : Int)) := by unfold phE; rw [if_pos he]
      rw [← e]; exact hit (by rw [e]; exact he)
    · have e : phE m j = 11 := by unfold phE; rw [if_neg he, if_pos hv]
      have := hit (by rw [e]; decide)
      rw [e] at this; exact this
    · unfold phE
      rw [if_neg he, if_neg (fun hh => hh hv)]
      simp
  have hz : ∀ i, i < m.Phases.length → phE m i = 0 := fun i hi => Classical.not_not.1 (hall i hi)
  rw [if_neg (by rw [firstE_zero.2 hz]; simp)] at h
  obtain ⟨g0, _⟩ := evt_ok (m := m) (j := 0) (by omega) (hz 0 (by omega))
  have e0 : evt m = (at' m.Phases 0).Vars := rfl
  have v1 : 0 ≤ evt m ∧ evt m ≤ 24 := ⟨g0.v0, g0.v24⟩
  have hm : 0 ≤ evt m * (m.Phases.length : Int) ∧ evt m * (m.Phases.length : Int) ≤ 24 * 6 := ⟨Int.mul_nonneg v1.1 (by omega), Int.mul_le_mul v1.2 (by omega) (by omega) (by omega)⟩
  rw [← e0]
  refine ⟨by unfold rng; omega, condT (fun h24 => ?_) (fun h24 => condN (fun hp => ?_) (fun hp => ?_))⟩
  · rw [if_pos h24] at h; exact h
  · rw [if_neg h24, if_pos hp] at h; exact h
  rw [if_neg h24, if_neg (fun hh => hh hp)] at h
  refine scanW (fun i => rowE m i ≠ 0) w.lp (fun i next hi hI hnx => ?_) (fun hall2 => ?_)
  · have hz : ∀ k, k < i → rowE m k = 0 := fun k hk => Classical.not_not.1 (hI k hk)
    have hit : rowE m i ≠ 0 → Q (errO (rowE m i)) := fun hne => by
      rw [firstE_hit hz hne _ hi] at h; exact h
    refine ⟨⟨by omega, by omega⟩, condN (fun hl => ?_) (fun hl => ?_)⟩
    · have e : rowE m i = 11 := by unfold rowE; rw [if_pos (by omega)]
      have := hit (by rw [e]; decide)
      rw [e] at this; exact this
    · refine phases_prob_s (w.lr i hi) (fun j hj => (hf i hi j hj).1) (condB (fun hb => ?_) (fun hb => hnx ?_))
      · have e : rowE m i = 3 := by unfold rowE; rw [if_neg (by omega), if_pos (of_decide_eq_true hb)]
        have := hit (by rw [e]; decide)
        rw [e] at this; exact this
      · unfold rowE
        rw [if_neg (by omega), if_neg (of_decide_eq_false hb)]
        simp
  · rw [firstE_zero.2 fun i hi => Classical.not_not.1 (hall2 i hi)] at h
    exact h
theorem ref46_Events_s {m : GMission} {Q : Int → Prop} (h0 : 0 < m.Phases.length) (h : Q (evt m)) : ref46_Events_W m Q := ⟨⟨by omega, by omega⟩, h⟩
theorem ref46_Events_d {m : GMission} {K : Int → Prop} (h0 : 0 < m.Phases.length) (h : K (evt m)) : detW (ref46_Events_W m) K := ⟨_, ref46_Events_s h0 rfl, h⟩
theorem ref46_Check_s {m : GMission} {Q : Int → Prop} (w : WrM m) (hf : FrM m) (h : Q (misE m)) : ref46_Check_W m Q := by
  unfold misE at h
  refine condE (fun h0 => ?_) (fun h0 => ?_)
  · rw [if_pos (by omega)] at h; exact condN (fun _ => h) (fun hh => by cases hh)
  rw [if_neg (by omega)] at h
  refine condT (fun h6 => ?_) (fun h6 => ?_)
  · rw [if_pos (by omega)] at h; exact condN (fun _ => h) (fun hh => by cases hh)
  rw [if_neg (by omega)] at h
  have hp0 : 0 < m.Phases.length := by omega
  refine scanW (fun j => phE m j ≠ 0) w.lf (fun j next hj hI hnx => ?_) (fun hall => ?_)
  · refine ⟨⟨by omega, by omega⟩, ref08_Check_s (w.top j hj) ?_⟩
    have hz : ∀ i, i < j → phE m i = 0 := fun i hi => Classical.not_not.1 (hI i hi)
    have hit : phE m j ≠ 0 → Q (phE m j) := fun hne => by
      rw [firstE_hit hz hne _ hj, if_pos hne] at h; exact h
    refine condN (fun he => condN (fun _ => ?_) (fun hh => absurd hh he)) (fun he => ⟨⟨by omega, by omega⟩, ref46_Events_d hp0 (condN (fun hv => condN (fun _ => ?_) (fun hh => by cases hh)) (fun hv => hnx ?_))⟩)
    · have e : phE m j = chkM (at' m.Phases (j : Int)) := by unfold phE; rw [if_pos he]
      rw [← e]; exact hit (by rw [e]; exact he)
    · have e : phE m j = 11 := by unfold phE; rw [if_neg (fun hh => hh he), if_pos hv]
      have := hit (by rw [e]; decide)
      rw [e] at this; exact this
    · unfold phE
      rw [if_neg (fun hh => hh he), if_neg (fun hh => hh hv)]
      simp
  have hz : ∀ i, i < m.Phases.length → phE m i = 0 := fun i hi => Classical.not_not.1 (hall i hi)
  rw [if_neg (by rw [firstE_zero.2 hz]; simp)] at h
  obtain ⟨g0, _⟩ := evt_ok (m := m) (j := 0) (by omega) (hz 0 (by omega))
  have v1 : 0 ≤ evt m ∧ evt m ≤ 24 := ⟨g0.v0, g0.v24⟩
  have hm : 0 ≤ evt m * (m.Phases.length : Int) ∧ evt m * (m.Phases.length : Int) ≤ 24 * 6 := ⟨Int.mul_nonneg v1.1 (by omega), Int.mul_le_mul v1.2 (by omega) (by omega) (by omega)⟩
  refine condN (fun hh => absurd rfl hh) (fun _ => ref46_Events_d hp0 ⟨by unfold rng; omega, condT (fun h24 => ?_) (fun h24 => ref46_Events_d hp0 (condN (fun hp => ?_) (fun hp => ?_)))⟩)
  · rw [if_pos h24] at h; exact h
  · rw [if_neg h24, if_pos hp] at h; exact h
  rw [if_neg h24, if_neg (fun hh => hh hp)] at h
  refine scanW (fun i => rowE m i ≠ 0) w.lp (fun i next hi hI hnx => ?_) (fun hall2 => ?_)
  · have hz : ∀ k, k < i → rowE m k = 0 := fun k hk => Classical.not_not.1 (hI k hk)
    have hit : rowE m i ≠ 0 → Q (rowE m i) := fun hne => by
      rw [firstE_hit hz hne _ hi] at h; exact h
    refine ⟨⟨by omega, by omega⟩, condN (fun hl => ?_) (fun hl => ?_)⟩
    · have e : rowE m i = 11 := by unfold rowE; rw [if_pos (by omega)]
      have := hit (by rw [e]; decide)
      rw [e] at this; exact this
    · have lr := w.lr i hi
      refine loopInv (n := (at' m.P (i : Int)).length) (fun j y => y = (j : Int) ∧ ∀ k : Nat, k < j → probB (at' (at' m.P (i : Int)) (k : Int)) = true) (fun y => y) 0 (fun j y h => by rw [h.1, Int.add_zero]) ⟨rfl, fun k hk => absurd hk (by omega)⟩ ?_ ?_
      · rintro j _ next2 hj ⟨rfl, hI2⟩ hn2
        refine ⟨⟨by omega, by omega⟩, condT (fun hc => ⟨⟨by omega, by omega⟩, ⟨by omega, by omega⟩, ref02_Prob_s (hf i hi j hj).1 (hf i hi j hj).2 (by decide) (condB (fun hb => ?_) (fun hb => ?_))⟩) (fun hc => absurd (show (j : Int) < ((at' m.P (i : Int)).length : Int) by omega) hc)⟩
        · have e : rowE m i = 3 := by unfold rowE; rw [if_neg (by omega), if_pos ⟨j, hj, by simpa using hb⟩]
          have := hit (by rw [e]; decide)
          rw [e] at this; exact this
        · refine ⟨by unfold rng; omega, hn2 _ ⟨by omega, fun k hk => ?_⟩⟩
          rcases Nat.lt_or_ge k j with h1 | h1
          · exact hI2 k h1
          · obtain rfl : k = j := by omega
            simpa using hb
      · rintro _ next2 ⟨rfl, hI2⟩
        refine ⟨⟨by omega, by omega⟩, condT (fun hc => absurd hc (by omega)) (fun _ => hnx ?_)⟩
        unfold rowE
        rw [if_neg (by omega), if_neg (by rintro ⟨k, hk, hb⟩; rw [hI2 k hk] at hb; cases hb)]
        simp
  · rw [firstE_zero.2 fun i hi => Classical.not_not.1 (hall2 i hi)] at h
    exact h
theorem mis_ok {m : GMission} (h : misE m = 0) : (0 < m.Phases.length ∧ m.Phases.length ≤ 6) ∧ (∀ j : Nat, j < m.Phases.length → FG (at' m.Phases (j : Int)) ∧ (at' m.Phases (j : Int)).Vars = evt m) ∧ (0 ≤ evt m ∧ evt m * (m.Phases.length : Int) ≤ 24) ∧ (m.P.length : Int) = evt m ∧
    ∀ i : Nat, i < m.P.length → (at' m.P (i : Int)).length = m.Phases.length ∧ ∀ j : Nat, j < m.Phases.length → probB (at' (at' m.P (i : Int)) (j : Int)) = true := by
  unfold misE at h
  split at h
  · cases h
  rename_i h0
  split at h
  · cases h
  rename_i h6
  split at h
  · rename_i h1; exact absurd h h1
  rename_i h1
  have hz := firstE_zero.1 (Classical.not_not.1 h1)
  split at h
  · cases h
  rename_i h24
  split at h
  · cases h
  rename_i hp
  have hr := firstE_zero.1 h
  refine ⟨⟨by omega, by omega⟩, fun j hj => evt_ok hj (hz j hj), ⟨?_, by omega⟩, Classical.not_not.1 hp, fun i hi => ?_⟩
  · obtain ⟨g0, e⟩ := evt_ok (m := m) (j := 0) (by omega) (hz 0 (by omega))
    rw [← e]; exact g0.v0
  · have := hr i hi
    unfold rowE at this
    split at this
    · cases this
    · rename_i hl
      have hl : (at' m.P (i : Int)).length = m.Phases.length := Classical.not_not.1 hl
      split at this
      · cases this
      · rename_i he
        refine ⟨hl, fun j hj => ?_⟩
        cases hb : probB (at' (at' m.P (i : Int)) (j : Int)) with
        | true => rfl
        | false => exact absurd ⟨j, by omega, hb⟩ he
theorem phases_CheckHistory_s {m : GMission} {l : List Int} {Q : Option Int → Prop} (w : WrM m) (hf : FrM m) (ll : l.length ≤ 9223372036854775807) (h : Q (errO (histE m l))) : phases_CheckHistory_W m l Q := by
  unfold histE at h
  refine phases_Check_s w hf ?_
  rw [isSome_errO]
  refine condT (fun he => ?_) (fun he => condN (fun hl => ?_) (fun hl => ?_))
  · rw [if_pos he] at h; exact h
  · rw [if_neg he, if_pos (by omega)] at h; exact h
  rw [if_neg he, if_neg (by omega)] at h
  refine scanW (fun i => at' l (i : Int) < 0 ∨ (m.Phases.length : Int) < at' l (i : Int)) ll (fun i next hi hI hnx => ?_) (fun hall => ?_)
  · refine ⟨⟨by omega, by omega⟩, fun y => y = decide (at' l (i : Int) < 0 ∨ (m.Phases.length : Int) < at' l (i : Int)), ?_, ?_⟩
    · exact condT (fun hc => (decide_eq_true (Or.inl hc)).symm) (fun hc => decide_eq_decide.2 ⟨Or.inr, fun hh => hh.resolve_left hc⟩)
    · rintro _ rfl
      refine condT (fun hb => ?_) (fun hb => hnx hb)
      rw [if_pos ⟨i, hi, hb⟩] at h; exact h
  · rw [if_neg (by rintro ⟨i, hi, hb⟩; exact hall i hi hb)] at h
    exact h
theorem ref46_CheckHistory_s {m : GMission} {l : List Int} {Q : Int → Prop} (w : WrM m) (hf : FrM m) (ll : l.length ≤ 9223372036854775807) (h : Q (histE m l)) : ref46_CheckHistory_W m l Q := by
  unfold histE at h
  refine ref46_Check_s w hf (condN (fun he => ?_) (fun he => ?_))
  · rw [if_pos he] at h; exact h
  obtain ⟨hp, _, _, he2, _⟩ := mis_ok he
  rw [if_neg (fun hh => hh he)] at h
  refine ref46_Events_s hp.1 (condN (fun hl => ?_) (fun hl => ?_))
  · rw [if_pos (by omega)] at h; exact h
  rw [if_neg (by omega)] at h
  refine scanW (fun i => at' l (i : Int) < 0 ∨ (m.Phases.length : Int) < at' l (i : Int)) ll (fun i next hi hI hnx => ?_) (fun hall => ?_)
  · refine ⟨⟨by omega, by omega⟩, condT (fun hc => ?_) (fun hc => ⟨⟨by omega, by omega⟩, condT (fun hc2 => ?_) (fun hc2 => hnx (by rw [not_or]; exact ⟨hc, hc2⟩))⟩)⟩
    · rw [if_pos ⟨i, hi, Or.inl hc⟩] at h; exact h
    · rw [if_pos ⟨i, hi, Or.inr hc2⟩] at h; exact h
  · rw [if_neg (by rintro ⟨i, hi, hb⟩; exact hall i hi hb)] at h
    exact h
end Go.Gg
namespace Go.Gg

/-- A mission that is accepted, with a history of it. -/
structure OkM (m : GMission) : Prop where
  w : WrM m
  f : FrM m
  k0 : 0 < m.Phases.length
  k6 : m.Phases.length ≤ 6
  fg : ∀ j : Nat, j < m.Phases.length → FG (at' m.Phases (j : Int)) ∧ (at' m.Phases (j : Int)).Vars = evt m
  ev : (m.P.length : Int) = evt m
  n24 : m.P.length * m.Phases.length ≤ 24
  row : ∀ i : Nat, i < m.P.length → (at' m.P (i : Int)).length = m.Phases.length
  prob : ∀ i : Nat, i < m.P.length → ∀ j : Nat, j < m.Phases.length → probB (at' (at' m.P (i : Int)) (j : Int)) = true
theorem okM {m : GMission} (w : WrM m) (hf : FrM m) (h : misE m = 0) : OkM m := by
  obtain ⟨h1, h2, h3, h4, h5⟩ := mis_ok h
  refine ⟨w, hf, h1.1, h1.2, h2, h4, ?_, fun i hi => (h5 i hi).1, fun i hi => (h5 i hi).2⟩
  have e : ((m.P.length * m.Phases.length : Nat) : Int) = evt m * (m.Phases.length : Int) := by rw [← h4]; simp
  omega
theorem OkM.p24 {m : GMission} (o : OkM m) : m.P.length ≤ 24 := by
  have h1 := o.n24
  have h2 : m.P.length * 1 ≤ m.P.length * m.Phases.length := Nat.mul_le_mul_left _ o.k0
  omega
/-- A history of a mission. -/
def OkH (m : GMission) (l : List Int) : Prop := l.length = m.P.length ∧ ∀ i : Nat, i < l.length → 0 ≤ at' l (i : Int) ∧ at' l (i : Int) ≤ (m.Phases.length : Int)
theorem okH {m : GMission} {l : List Int} (h : histE m l = 0) : misE m = 0 ∧ OkH m l := by
  unfold histE at h
  split at h
  · rename_i h1; exact absurd h h1
  rename_i h1
  split at h
  · cases h
  rename_i h2
  split at h
  · cases h
  rename_i h3
  refine ⟨Classical.not_not.1 h1, Classical.not_not.1 h2, fun i hi => ?_⟩
  have : ¬ (at' l (i : Int) < 0 ∨ (m.Phases.length : Int) < at' l (i : Int)) := fun hh => h3 ⟨i, hi, hh⟩
  omega
theorem okH_E {m : GMission} {l : List Int} (h : misE m = 0) (hl : OkH m l) : histE m l = 0 := by
  unfold histE
  rw [if_neg (fun hh => hh h), if_neg (fun hh => hh hl.1), if_neg]
  rintro ⟨i, hi, hh⟩
  have := hl.2 i hi
  omega

/-! ### Failed events -/
def failP (l : List Int) (j : Int) (i : Nat) : Bool := decide (at' l (i : Int) ≤ j)
def failM (l : List Int) (j : Int) : Nat := bset (failP l j) l.length
theorem phases_failed_s {l : List Int} {j : Int} {Q : Int → Prop} (hl : l.length ≤ 60) (h : Q (failM l j : Int)) : phases_failed_W l j Q := by
  refine loopUp (n := l.length) (fun i => ((bset (failP l j) i : Int), (i : Int))) (fun y => y.2) 0 (fun i => by simp) rfl ?_ ?_
  · intro i next hi hn
    refine condT (fun hc => ⟨⟨by omega, by omega⟩, condT (fun hb => ⟨shl_ok (by omega), by unfold rng; omega, ?_⟩) (fun hb => ⟨by unfold rng; omega, ?_⟩)⟩) (fun hc => absurd (show (i : Int) < (l.length : Int) by omega) hc)
    · rw [or_next (by omega)]
      rw [bset, if_pos (show failP l j i = true from decide_eq_true hb)] at hn
      exact hn
    · rw [bset, if_neg (show ¬ failP l j i = true by simp [failP, hb])] at hn
      exact hn
  · intro next
    exact condT (fun hc => absurd hc (by omega)) (fun _ => h)
theorem ref46_Failed_s {l : List Int} {j : Int} {Q : Int → Prop} (hl : l.length ≤ 60) (h : Q (failM l j : Int)) : ref46_Failed_W l j Q := phases_failed_s hl h
theorem failM_lt {l : List Int} {j : Int} : failM l j < 2 ^ l.length := bset_lt _

/-! ### The first that is so -/
def fstT (g : Nat → Bool) : Nat → Nat
  | 0 => 0
  | n + 1 => if fstT g n = n then (if g n = true then n else n + 1) else fstT g n
theorem fstT_le {g : Nat → Bool} : ∀ n, fstT g n ≤ n
  | 0 => Nat.le_refl _
  | n + 1 => by
    have := fstT_le (g := g) n
    rw [fstT]
    split
    · split <;> omega
    · omega
theorem fstT_none {g : Nat → Bool} : ∀ n, (∀ i, i < n → g i = false) → fstT g n = n
  | 0, _ => rfl
  | n + 1, h => by rw [fstT, if_pos (fstT_none n fun i hi => h i (by omega)), if_neg (by rw [h n (by omega)]; simp)]
theorem fstT_hit {g : Nat → Bool} {i : Nat} (h : ∀ j, j < i → g j = false) (hg : g i = true) : ∀ n, i < n → fstT g n = i
  | 0, hn => absurd hn (by omega)
  | n + 1, hn => by
    rw [fstT]
    rcases Nat.lt_or_ge i n with h1 | h1
    · rw [fstT_hit h hg n h1, if_neg (by omega)]
    · obtain rfl : i = n := by omega
      rw [if_pos (fstT_none i h), if_pos hg]
theorem fstT_before {g : Nat → Bool} : ∀ {n i : Nat}, i < fstT g n → g i = false
  | 0, i, h => by simp [fstT] at h
  | n + 1, i, h => by
    rw [fstT] at h
    split at h
    · rename_i h1
      split at h
      · exact fstT_before (n := n) (by omega)
      · rename_i h2
        rcases Nat.lt_or_ge i n with h3 | h3
        · exact fstT_before (n := n) (by omega)
        · obtain rfl : i = n := by omega
          simpa using h2
    · exact fstT_before (n := n) h
theorem fstT_at {g : Nat → Bool} : ∀ {n : Nat}, fstT g n < n → g (fstT g n) = true
  | 0, h => by simp [fstT] at h
  | n + 1, h => by
    rw [fstT] at h ⊢
    split
    · rename_i h1
      rw [if_pos h1] at h
      split
      · rename_i h2; exact h2
      · rename_i h2; rw [if_neg h2] at h; omega
    · rename_i h1
      have := fstT_le (g := g) n
      exact fstT_at (n := n) (by omega)

/-! ### The first phase in which the mission fails -/
def failsM (m : GMission) (l : List Int) : Nat := fstT (fun j => FV (at' m.Phases (j : Int)) (failM l (j : Int))) m.Phases.length
theorem chk2_ok {f : GFormula} {s : Nat} (g : FG f) (hs : s < 2 ^ f.Vars.toNat) : chk2 f (s : Int) = 0 := by
  unfold chk2
  rw [if_neg (fun hh => hh (chk_ok.2 g)), if_neg]
  rintro (hh | hh)
  · omega
  · have e : (2 ^ f.Vars.toNat : Int) = ((2 ^ f.Vars.toNat : Nat) : Int) := by simp
    rw [e] at hh
    omega
theorem OkM.two {m : GMission} (o : OkM m) {l : List Int} (hl : OkH m l) {j : Nat} (hj : j < m.Phases.length) (k : Int) : failM l k < 2 ^ (at' m.Phases (j : Int)).Vars.toNat := by
  have h1 := failM_lt (l := l) (j := k)
  have h2 : (at' m.Phases (j : Int)).Vars.toNat = l.length := by rw [(o.fg j hj).2, ← o.ev, hl.1]; simp
  rw [h2]; exact h1
theorem OkM.small {m : GMission} (o : OkM m) {l : List Int} (hl : OkH m l) (k : Int) : failM l k < 4294967296 := by
  have h1 := failM_lt (l := l) (j := k)
  have h2 := pow24 (n := l.length) (by rw [hl.1]; exact o.p24)
  omega
theorem phases_Fails_s {m : GMission} {l : List Int} {Q : Int → Option Int → Prop} (w : WrM m) (hf : FrM m) (ll : l.length ≤ 9223372036854775807) (h1 : histE m l ≠ 0 → Q 0 (some (histE m l))) (h2 : histE m l = 0 → Q (failsM m l : Int) none) : phases_Fails_W m l Q := by
  refine phases_CheckHistory_s w hf ll ?_
  rw [isSome_errO]
  refine condT (fun he => ?_) (fun he => ?_)
  · rw [errO_ne he]; exact h1 he
  have he := Classical.not_not.1 he
  obtain ⟨hm, hh⟩ := okH he
  have o := okM w hf hm
  have h2 := h2 he
  refine scanW (fun j => FV (at' m.Phases (j : Int)) (failM l (j : Int)) = true) w.lf (fun j next hj hI hnx => ?_) (fun hall => ?_)
  · refine ⟨⟨by omega, by omega⟩, _, phases_failed_s (by rw [hh.1]; have := o.p24; omega) rfl, ?_⟩
    refine ⟨_, _, formula_Value_s (w.top j hj) (fun hc => absurd (chk2_ok (o.fg j hj).1 (o.two hh hj _)) hc) (fun _ => ⟨rfl, rfl⟩), ?_⟩
    refine condB (fun hc => by cases hc) (fun _ => condB (fun hb => ?_) (fun hb => hnx (by rw [Int.toNat_natCast] at hb; rw [hb]; simp)))
    rw [Int.toNat_natCast] at hb
    have e : failsM m l = j := fstT_hit (g := fun j => FV (at' m.Phases (j : Int)) (failM l (j : Int))) (fun k hk => by simpa using hI k hk) hb _ hj
    rw [e] at h2; exact h2
  · have e : failsM m l = m.Phases.length := fstT_none _ fun k hk => by simpa using hall k hk
    rw [e] at h2; exact h2
theorem ref46_Fails_s {m : GMission} {l : List Int} {Q : Int → Prop} (o : OkM m) (hh : OkH m l) (h2 : Q (failsM m l : Int)) : ref46_Fails_W m l Q := by
  refine scanW (fun j => FV (at' m.Phases (j : Int)) (failM l (j : Int)) = true) o.w.lf (fun j next hj hI hnx => ?_) (fun hall => ?_)
  · refine ⟨⟨by omega, by omega⟩, _, ref46_Failed_s (by rw [hh.1]; have := o.p24; omega) rfl, ?_⟩
    refine ⟨_, ref08_Value_s (o.fg j hj).1 (o.small hh _) rfl, ?_⟩
    refine condB (fun hb => ?_) (fun hb => hnx (by rw [hb]; simp))
    have e : failsM m l = j := fstT_hit (g := fun j => FV (at' m.Phases (j : Int)) (failM l (j : Int))) (fun k hk => by simpa using hI k hk) hb _ hj
    rw [e] at h2; exact h2
  · have e : failsM m l = m.Phases.length := fstT_none _ fun k hk => by simpa using hall k hk
    rw [e] at h2; exact h2
theorem phases_Failed_s {m : GMission} {l : List Int} {j : Int} {Q : Int → Option Int → Prop} (w : WrM m) (hf : FrM m) (ll : l.length ≤ 9223372036854775807) (h1 : histE m l ≠ 0 → Q 0 (some (histE m l)))
    (h3 : histE m l = 0 → (j < 0 ∨ (m.Phases.length : Int) ≤ j) → Q 0 (some 10)) (h2 : histE m l = 0 → 0 ≤ j ∧ j < (m.Phases.length : Int) → Q (failM l j : Int) none) : phases_Failed_W m l j Q := by
  refine phases_CheckHistory_s w hf ll ?_
  rw [isSome_errO]
  refine condT (fun he => ?_) (fun he => ?_)
  · rw [errO_ne he]; exact h1 he
  have he := Classical.not_not.1 he
  obtain ⟨hm, hh⟩ := okH he
  have o := okM w hf hm
  refine ⟨fun y => y = decide (j < 0 ∨ (m.Phases.length : Int) ≤ j), ?_, ?_⟩
  · exact condT (fun hc => (decide_eq_true (Or.inl hc)).symm) (fun hc => decide_eq_decide.2 ⟨Or.inr, fun hh => hh.resolve_left hc⟩)
  · rintro _ rfl
    refine condT (fun hc => h3 he hc) (fun hc => phases_failed_s (by rw [hh.1]; have := o.p24; omega) (h2 he (by omega)))

/-! ### The state of a history -/
def stP (K : Nat) (l : List Int) (e : Nat) : Bool := decide (at' l ((e / K : Nat) : Int) = ((e % K : Nat) : Int))
def stM (K : Nat) (l : List Int) (i : Nat) : Nat := bset (stP K l) (i * K)
theorem stP_at {K : Nat} {l : List Int} {i k : Nat} (hk : k < K) : stP K l (i * K + k) = decide (at' l (i : Int) = (k : Int)) := by
  unfold stP
  have h1 : (i * K + k) / K = i := by rw [Nat.mul_comm, Nat.mul_add_div (by omega), Nat.div_eq_of_lt hk]; rfl
  have h2 : (i * K + k) % K = k := by rw [Nat.mul_comm, Nat.mul_add_mod, Nat.mod_eq_of_lt hk]
  rw [h1, h2]
theorem st_step {K : Nat} {l : List Int} {i a : Nat} (ha : at' l (i : Int) = (a : Int)) : ∀ k, k ≤ K → bset (stP K l) (i * K + k) = if a < k then stM K l i + 2 ^ (i * K + a) else stM K l i
  | 0, _ => by rw [if_neg (by omega)]; rfl
  | k + 1, hk => by
    rw [← Nat.add_assoc, bset, st_step ha k (by omega), stP_at (by omega), ha]
    rcases Nat.lt_trichotomy a k with h | h | h
    · rw [if_neg (by simp; omega), if_pos h, if_pos (by omega)]
    · subst h
      rw [if_pos (by simp), if_neg (by omega), if_pos (by omega)]
    · rw [if_neg (by simp; omega), if_neg (by omega), if_neg (by omega)]
theorem st_next {K : Nat} {l : List Int} {i a : Nat} (ha : at' l (i : Int) = (a : Int)) : stM K l (i + 1) = if a < K then stM K l i + 2 ^ (i * K + a) else stM K l i := by
  have := st_step (K := K) ha K (Nat.le_refl K)
  rw [← this]
  unfold stM
  rw [Nat.add_mul, Nat.one_mul]
theorem st_or {K : Nat} {l : List Int} {i a : Nat} (h : i * K + a < 62) : bits .or .i64 (stM K l i : Int) (1 * 2 ^ (Int.toNat ((i : Int) * (K : Int) + (a : Int)))) = ((stM K l i + 2 ^ (i * K + a) : Nat) : Int) := by
  have e0 : Int.toNat ((i : Int) * (K : Int) + (a : Int)) = i * K + a := by
    have : (i : Int) * (K : Int) + (a : Int) = ((i * K + a : Nat) : Int) := by simp
    rw [this, Int.toNat_natCast]
  have e : (1 * 2 ^ (Int.toNat ((i : Int) * (K : Int) + (a : Int))) : Int) = ((2 ^ (i * K + a) : Nat) : Int) := by rw [e0]; simp
  have hlt : stM K l i < 2 ^ (i * K) := bset_lt _
  have hle : 2 ^ (i * K) ≤ 2 ^ (i * K + a) := Nat.pow_le_pow_right (by omega) (by omega)
  have h62 := pow62 h
  rw [e, bits_or (by omega) h62]
  have := Nat.two_pow_add_eq_or_of_lt (i := i * K + a) (b := stM K l i) (by omega) 1
  rw [Nat.mul_one] at this
  rw [Nat.or_comm, ← this, Nat.add_comm]
theorem idx_lt {i n K : Nat} (hi : i < n) : i * K + K ≤ n * K := by
  have := Nat.mul_le_mul_right K hi
  rwa [Nat.succ_mul] at this
theorem st_loop {K n : Nat} {l : List Int} (_ : l.length = n) (hK : n * K ≤ 24) (_ : 0 < K) (hl : ∀ i : Nat, i < n → 0 ≤ at' l (i : Int) ∧ at' l (i : Int) ≤ (K : Int)) {i : Nat} (hi : i < n) :
    ∃ a : Nat, at' l (i : Int) = (a : Int) ∧ a ≤ K ∧ (a < K → i * K + a < 24) ∧ i * K ≤ 24 ∧ ((i : Int) * (K : Int) = ((i * K : Nat) : Int)) := by
  obtain ⟨a, ha⟩ := Int.eq_ofNat_of_zero_le (hl i hi).1
  have h1 := idx_lt (K := K) hi
  refine ⟨a, ha, ?_, fun h => by omega, by omega, by simp⟩
  have := (hl i hi).2
  omega
theorem phases_State_s {m : GMission} {l : List Int} {Q : Int → Option Int → Prop} (w : WrM m) (hf : FrM m) (ll : l.length ≤ 9223372036854775807) (h1 : histE m l ≠ 0 → Q 0 (some (histE m l))) (h2 : histE m l = 0 → Q (stM m.Phases.length l l.length : Int) none) : phases_State_W m l Q := by
  refine phases_CheckHistory_s w hf ll ?_
  rw [isSome_errO]
  refine condT (fun he => ?_) (fun he => ?_)
  · rw [errO_ne he]; exact h1 he
  have he := Classical.not_not.1 he
  obtain ⟨hm, hh⟩ := okH he
  have o := okM w hf hm
  have h2 := h2 he
  refine loopUp (n := l.length) (fun i => ((stM m.Phases.length l i : Int), (i : Int))) (fun y => y.2) 0 (fun i => by simp) (by simp [stM, bset]) ?_ ?_
  · intro i next hi hn
    obtain ⟨a, ha, ha1, ha2, ha3, ha4⟩ := st_loop (n := l.length) (K := m.Phases.length) rfl (by rw [hh.1]; exact o.n24) o.k0 hh.2 hi
    refine condT (fun hc => ⟨⟨by omega, by omega⟩, condT (fun hb => ?_) (fun hb => ⟨by unfold rng; omega, ?_⟩)⟩) (fun hc => absurd (show (i : Int) < (l.length : Int) by omega) hc)
    · rw [ha] at hb ⊢
      have h24 := ha2 (by omega)
      refine ⟨by rw [ha4]; unfold rng; omega, by rw [ha4]; unfold rng; omega, ?_, letIn ⟨by unfold rng; omega, ?_⟩⟩
      · have e : (i : Int) * (m.Phases.length : Int) + (a : Int) = ((i * m.Phases.length + a : Nat) : Int) := by simp
        rw [e]; exact shl_ok (by omega)
      · rw [st_or (by omega)]
        rw [st_next ha, if_pos (by omega)] at hn
        exact hn
    · rw [ha] at hb
      rw [st_next ha, if_neg (by omega)] at hn
      exact hn
  · intro next
    exact condT (fun hc => absurd hc (by omega)) (fun _ => h2)
theorem ref46_State_s {m : GMission} {l : List Int} {Q : Int → Prop} (o : OkM m) (hh : OkH m l) (h2 : Q (stM m.Phases.length l l.length : Int)) : ref46_State_W m l Q := by
  have hp := o.p24
  have hl := hh.1
  refine loopUp (n := l.length) (fun i => ((stM m.Phases.length l i : Int), (i : Int))) (fun y => y.2) 0 (fun i => by simp) (by simp [stM, bset]) ?_ ?_
  · intro i next hi hn
    obtain ⟨a, ha, ha1, ha2, ha3, ha4⟩ := st_loop (n := l.length) (K := m.Phases.length) rfl (by rw [hh.1]; exact o.n24) o.k0 hh.2 hi
    refine condT (fun hc => ⟨⟨by omega, by omega⟩, condT (fun hb => ?_) (fun hb => ⟨by unfold rng; omega, ?_⟩)⟩) (fun hc => absurd (show (i : Int) < (l.length : Int) by omega) hc)
    · rw [ha] at hb ⊢
      have h24 := ha2 (by omega)
      refine ⟨by rw [ha4]; unfold rng; omega, ⟨by omega, by omega⟩, by rw [ha4]; unfold rng; omega, ?_, by unfold rng; omega, ?_⟩
      · have e : (i : Int) * (m.Phases.length : Int) + (a : Int) = ((i * m.Phases.length + a : Nat) : Int) := by simp
        rw [e]; exact shl_ok (by omega)
      · rw [st_or (by omega)]
        rw [st_next ha, if_pos (by omega)] at hn
        exact hn
    · rw [ha] at hb
      rw [st_next ha, if_neg (by omega)] at hn
      exact hn
  · intro next
    exact condT (fun hc => absurd hc (by omega)) (fun _ => h2)

/-! ### The weight of a history -/
def pq (m : GMission) (i j : Nat) : Rat := valR (at' (at' m.P (i : Int)) (j : Int))
def fq (m : GMission) (l : List Int) (i j : Nat) : Rat := if (j : Int) < at' l (i : Int) then 1 - pq m i j else pq m i j
def wI (m : GMission) (l : List Int) (q : Rat) (i : Nat) : Nat → Rat
  | 0 => q
  | k + 1 => wI m l q i k * fq m l i k
/-- How many factors an event has. -/
def cW (m : GMission) (l : List Int) (i : Nat) : Nat := min ((at' l (i : Int)).toNat + 1) m.Phases.length
def wM (m : GMission) (l : List Int) : Nat → Rat
  | 0 => 1
  | i + 1 => wI m l (wM m l i) i (cW m l i)
theorem OkM.pRp {m : GMission} (o : OkM m) {i j : Nat} (hi : i < m.P.length) (hj : j < m.Phases.length) : Rp 129 (at' (at' m.P (i : Int)) (j : Int)) (pq m i j) :=
  ⟨(o.f i hi j (by rw [o.row i hi]; exact hj)).1, rfl, (o.f i hi j (by rw [o.row i hi]; exact hj)).2⟩
theorem one_cast : ((1 : Int) : Rat) = 1 := rfl
theorem sub_min {α : Type} {l : List α} {a : Int} (_ : 0 ≤ a) (h1 : a ≤ (l.length : Int)) : (sub' l 0 a).length = a.toNat := by
  simp [sub']; omega
theorem sub_at {α : Type} [Inhabited α] {l : List α} {a : Int} {j : Nat} (_ : 0 ≤ a) (_ : a ≤ (l.length : Int)) (hj : j < a.toNat) : at' (sub' l 0 a) (j : Int) = at' l (j : Int) := by
  simp [at', sub', List.getD_eq_getElem?_getD, hj]
theorem phases_Weight_s {m : GMission} {l : List Int} {Q : GRat → Option Int → Prop} (w : WrM m) (hf : FrM m) (ll : l.length ≤ 9223372036854775807) (h1 : histE m l ≠ 0 → Q (⟨false, [], []⟩ : GRat) (some (histE m l)))
    (h2 : histE m l = 0 → Rp 100000 (ratOf (wM m l l.length)) (wM m l l.length) → Q (ratOf (wM m l l.length)) none) : phases_Weight_W m l Q := by
  refine phases_CheckHistory_s w hf ll ?_
  rw [isSome_errO]
  refine condT (fun he => ?_) (fun he => ?_)
  · rw [errO_ne he]; exact h1 he
  have he := Classical.not_not.1 he
  obtain ⟨hm, hh⟩ := okH he
  have o := okM w hf hm
  have h2 := h2 he
  have hp := o.p24
  have hk := o.k6
  refine of_p (by unfold rng; omega) fun r1 => ?_
  rw [one_cast] at r1 ⊢
  refine loopInv (n := l.length) (fun i y => y = ((i : Int), ratOf (wM m l i)) ∧ Rp (64 + i * 2000) (ratOf (wM m l i)) (wM m l i)) (fun y => y.1) 0 (fun i y h => by rw [h.1]; simp) ⟨rfl, r1⟩ ?_ ?_
  · rintro i _ next hi ⟨rfl, hR⟩ hn
    have hin : i < m.P.length := by rw [← hh.1]; exact hi
    obtain ⟨h0, hK⟩ := hh.2 i hi
    obtain ⟨a, ha⟩ := Int.eq_ofNat_of_zero_le h0
    have hc : cW m l i = min (a + 1) m.Phases.length := by unfold cW; rw [ha]; rfl
    have hmin : (min (at' l (i : Int) + 1) (m.Phases.length : Int)) = (cW m l i : Int) := by rw [hc, ha]; omega
    have hcK : cW m l i ≤ m.Phases.length := by rw [hc]; omega
    have hrow := o.row i hin
    refine condT (fun _ => ⟨⟨by omega, by omega⟩, ⟨by omega, by omega⟩, by unfold rng; omega, ⟨by omega, by rw [hmin]; omega, by rw [hmin, hrow]; omega⟩, ?_⟩) (fun hc => absurd (show (i : Int) < (l.length : Int) by omega) hc)
    have hsl : (sub' (at' m.P (i : Int)) 0 (min (at' l (i : Int) + 1) (m.Phases.length : Int))).length = cW m l i := by rw [hmin, sub_min (by omega) (by rw [hrow]; omega)]; simp
    refine loopInv (n := cW m l i) (fun k y => y = ((k : Int), ratOf (wI m l (wM m l i) i k)) ∧ Rp (64 + i * 2000 + k * 200) (ratOf (wI m l (wM m l i) i k)) (wI m l (wM m l i) i k)) (fun y => y.1) 0 (fun i y h => by rw [h.1]; simp) ⟨rfl, hR⟩ ?_ ?_
    · rintro k _ next2 hkc ⟨rfl, hR2⟩ hn2
      have hat : at' (sub' (at' m.P (i : Int)) 0 (min (at' l (i : Int) + 1) (m.Phases.length : Int))) (k : Int) = at' (at' m.P (i : Int)) (k : Int) := by rw [hmin]; exact sub_at (by omega) (by rw [hrow]; omega) (by omega)
      have hpr := o.pRp hin (show k < m.Phases.length by omega)
      have key : ∀ {z : GRat}, Rp 195 z (fq m l i k) → rational_Mul_W (ratOf (wI m l (wM m l i) i k)) z (fun r1 => rng ((k : Int) + 1) ∧ next2 ((k : Int) + 1, r1)) := fun {z} hz =>
        mul_p hR2 hz (by simp only [cap]; omega) fun hr => ⟨by unfold rng; omega, hn2 _ ⟨rfl, hr.mono (by omega)⟩⟩
      refine condT (fun _ => ⟨⟨by omega, by rw [hsl]; omega⟩, fun z => Rp 195 z (fq m l i k), ?_, fun z hz => key hz⟩) (fun hc => absurd (show (k : Int) < _ by rw [hsl]; omega) hc)
      rw [hat]
      refine condT (fun hb => sub_p r1 hpr (by decide) fun hr => ?_) (fun hb => ?_)
      · have e : fq m l i k = 1 - pq m i k := by unfold fq; rw [if_pos hb]
        rw [e]; exact hr.mono (by omega)
      · have e : fq m l i k = pq m i k := by unfold fq; rw [if_neg hb]
        rw [e]; exact hpr.mono (by omega)
    · rintro _ next2 ⟨rfl, hR2⟩
      refine condT (fun hc => absurd hc (by rw [hsl]; omega)) (fun _ => ⟨by unfold rng; omega, hn _ ⟨rfl, ?_⟩⟩)
      exact hR2.mono (by omega)
  · rintro _ next ⟨rfl, hR⟩
    exact condT (fun hc => absurd hc (by omega)) (fun _ => h2 (hR.mono (by rw [hh.1]; omega)))
theorem ref46_Weight_s {m : GMission} {l : List Int} {Q : GRat → Prop} (o : OkM m) (hh : OkH m l) (h2 : Rp 100000 (ratOf (wM m l l.length)) (wM m l l.length) → Q (ratOf (wM m l l.length))) : ref46_Weight_W m l Q := by
  have hp := o.p24
  have hk := o.k6
  refine of_q (by unfold rng; omega) fun r1 => ?_
  rw [one_cast] at r1 ⊢
  refine loopInv (n := l.length) (fun i y => y = ((i : Int), ratOf (wM m l i)) ∧ Rp (64 + i * 2000) (ratOf (wM m l i)) (wM m l i)) (fun y => y.1) 0 (fun i y h => by rw [h.1]; simp) ⟨rfl, r1⟩ ?_ ?_
  · rintro i _ next hi ⟨rfl, hR⟩ hn
    have hin : i < m.P.length := by rw [← hh.1]; exact hi
    obtain ⟨h0, hK⟩ := hh.2 i hi
    obtain ⟨a, ha⟩ := Int.eq_ofNat_of_zero_le h0
    have hrow := o.row i hin
    refine condT (fun _ => ?_) (fun hc => absurd (show (i : Int) < (l.length : Int) by omega) hc)
    refine loopInv (n := a) (fun k y => y = ((k : Int), ratOf (wI m l (wM m l i) i k)) ∧ Rp (64 + i * 2000 + k * 200) (ratOf (wI m l (wM m l i) i k)) (wI m l (wM m l i) i k)) (fun y => y.1) 0 (fun i y h => by rw [h.1]; simp) ⟨rfl, hR⟩ ?_ ?_
    · rintro k _ next2 hka ⟨rfl, hR2⟩ hn2
      have hpr := o.pRp hin (show k < m.Phases.length by omega)
      refine ⟨⟨by omega, by omega⟩, condT (fun hb => of_qd (by unfold rng; omega) fun _ => ?_) (fun hc => absurd (show (k : Int) < at' l (i : Int) by omega) hc)⟩
      rw [one_cast]
      refine ⟨⟨by omega, by omega⟩, ⟨by omega, by rw [hrow]; omega⟩, sub_qd r1 hpr (by decide) fun hr => mul_qd hR2 hr (by simp only [cap]; omega) fun hr2 => ⟨by unfold rng; omega, hn2 _ ⟨?_, ?_⟩⟩⟩
      · rw [wI, fq, if_pos hb]; rfl
      · rw [wI, fq, if_pos hb]; exact hr2.mono (by omega)
    · rintro _ next2 ⟨rfl, hR2⟩
      refine ⟨⟨by omega, by omega⟩, condT (fun hc => absurd hc (by omega)) (fun _ => ⟨⟨by omega, by omega⟩, condT (fun hb => ⟨⟨by omega, by omega⟩, ⟨by omega, by omega⟩, ⟨by omega, by rw [hrow]; omega⟩, ?_⟩) (fun hb => ⟨by unfold rng; omega, hn _ ⟨?_, ?_⟩⟩)⟩)⟩
      · rw [ha] at hb ⊢
        have hc : cW m l i = a + 1 := by unfold cW; rw [ha]; omega
        have hf : fq m l i a = pq m i a := by unfold fq; rw [if_neg (by omega)]
        have ew : wM m l (i + 1) = wI m l (wM m l i) i a * pq m i a := by rw [wM, hc, wI, hf]
        refine mul_qd hR2 (o.pRp hin (by omega)) (by simp only [cap]; omega) fun hr => ⟨by unfold rng; omega, hn _ ⟨?_, ?_⟩⟩
        · rw [ew]; rfl
        · rw [ew]; exact hr.mono (by omega)
      · rw [ha] at hb hK
        have hc : cW m l i = a := by unfold cW; rw [ha]; omega
        rw [wM, hc]; rfl
      · rw [ha] at hb hK
        have hc : cW m l i = a := by unfold cW; rw [ha]; omega
        rw [wM, hc]; exact hR2.mono (by omega)
  · rintro _ next ⟨rfl, hR⟩
    exact condT (fun hc => absurd hc (by omega)) (fun _ => h2 (hR.mono (by rw [hh.1]; omega)))
end Go.Gg
