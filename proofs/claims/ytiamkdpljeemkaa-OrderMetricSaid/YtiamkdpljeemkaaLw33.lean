/- Chapter 14: the distance is a metric. Conditions: none. -/
import Derived.Test.YtiamkdpljeemkaaMb
import Derived.Test.YtiamkdpljeemkaaWa
/- Chapter 14: the distance is a metric. Conditions: none. -/
namespace Go.Gg
theorem lev_eq {a b : List Int} (ha : Or14 a) (hb : Or14 b) (hl : a.length = b.length) : (∀ v, v < a.length → levO a v = levO b v) ↔ a = b := by
  constructor
  · intro h
    refine eq_by hl (fun i hi => ?_)
    have h1 := ha.atN_lt hi
    have h2 := hb.at_lev (v := atN a i) (by omega)
    rw [← h _ h1.2, ha.bij.pa i hi] at h2
    rw [h1.1, h2.2]
  · rintro rfl v _; rfl
theorem law14_OrderMetric_s {a b c : List Int} {Q : Bool → Prop} (h : Q true) : law14_OrderMetric_W a b c Q := by
  refine ⟨fun x => x = false → (Or14 a ∧ Or14 b ∧ Or14 c) ∧ a.length = b.length ∧ b.length = c.length, law14_awake_s (condB (fun hc => by cases hc) (fun _ => law14_valid_s (condB (fun _ hc => by cases hc) (fun h1 => law14_valid_s (condB (fun _ hc => by cases hc) (fun h2 => law14_valid_s (condB (fun _ hc => by cases hc) (fun h3 => condN (fun _ hc => by cases hc) (fun h4 hb => ?_))))))))), fun x hx => condB (fun _ => law14_awake_s h) (fun hx0 => ?_)⟩
  · have h5 : (b.length : Int) = (c.length : Int) := by simpa using hb
    exact ⟨⟨validO_iff.1 (by simpa using h1), validO_iff.1 (by simpa using h2), validO_iff.1 (by simpa using h3)⟩, by omega, by omega⟩
  obtain ⟨⟨ha, hb, hc⟩, l1, l2⟩ := hx hx0
  have ba := ha.bij
  have bb := hb.bij
  have bc := hc.bij
  rw [← l1] at bb
  rw [← l2, ← l1] at bc
  have s1 : disM b a = disM a b := by unfold disM; rw [← l1]; exact invD_symm
  have t1 : disM a c ≤ disM a b + disM b c := by
    unfold disM
    rw [← l1]
    exact invD_tri bb
  have m1 : 2 * disM a b ≤ a.length * (a.length - 1) := invD_le
  have hle := ha.le
  have z1 : disM a b = 0 ↔ a = b := by
    unfold disM
    rw [invD_zero ba bb, lev_eq ha hb l1]
  refine Distance_s (fun hh => absurd (disE_zero.2 ⟨ha, hb, l1⟩) hh) (fun _ => Distance_s (fun hh => absurd (disE_zero.2 ⟨hb, hc, l2⟩) hh) (fun _ => Distance_s (fun hh => absurd (disE_zero.2 ⟨ha, hc, by omega⟩) hh) (fun _ => Distance_s (fun hh => absurd (disE_zero.2 ⟨hb, ha, l1.symm⟩) hh) (fun _ => ?_))))
  rw [s1]
  have hprod : (a.length : Int) * ((a.length : Int) - 1) ≤ 576 ∧ 2 * (disM a b : Int) ≤ (a.length : Int) * ((a.length : Int) - 1) ∧ 0 ≤ (a.length : Int) * ((a.length : Int) - 1) := by
    rcases Nat.eq_zero_or_pos a.length with hz | hp
    · rw [hz] at m1 ⊢
      simp at m1 ⊢
      omega
    · obtain ⟨m, hm⟩ : ∃ m, a.length = m + 1 := ⟨a.length - 1, by omega⟩
      rw [hm] at m1 ⊢
      have e : ((m + 1 : Nat) : Int) * (((m + 1 : Nat) : Int) - 1) = (((m + 1) * m : Nat) : Int) := by
        rw [show (((m + 1 : Nat) : Int) - 1) = (m : Int) by omega]; rfl
      rw [e]
      rw [show m + 1 - 1 = m by omega] at m1
      have : (m + 1) * m ≤ 24 * 24 := Nat.mul_le_mul (by omega) (by omega)
      omega
  obtain ⟨p1, p2, p3⟩ := hprod
  have hm24 : disM a b ≤ 288 := by omega
  have hbc : 2 * disM b c ≤ b.length * (b.length - 1) := invD_le
  have hbc2 : disM b c ≤ 288 := by
    have : b.length * (b.length - 1) ≤ 24 * 24 := Nat.mul_le_mul (by omega) (by omega)
    omega
  have hd : (disM a b : Int) ≤ Int.tdiv ((a.length : Int) * ((a.length : Int) - 1)) 2 := by
    rw [Int.tdiv_eq_ediv_of_nonneg p3]
    omega
  have hd2 : Int.tdiv ((a.length : Int) * ((a.length : Int) - 1)) 2 ≤ 576 ∧ 0 ≤ Int.tdiv ((a.length : Int) * ((a.length : Int) - 1)) 2 := by
    rw [Int.tdiv_eq_ediv_of_nonneg p3]
    omega
  refine condB (fun hh => by cases hh) (fun _ => condB (fun hh => by cases hh) (fun _ => condB (fun hh => by cases hh) (fun _ => condB (fun hh => by cases hh) (fun _ => condE (fun _ => condT (fun _ => ⟨by unfold rng; omega, by unfold rng; omega, by unfold rng; omega, condT (fun _ => ⟨by unfold rng; omega, condT (fun _ => base_Ints_s (by omega) ?_) (fun hh => absurd (by omega) hh)⟩) (fun hh => absurd hd hh)⟩) (fun hh => absurd (by omega) hh)) (fun hh => absurd rfl hh)))))
  have e : (((disM a b : Nat) : Int) == 0) = decide (a = b) := by
    rw [Bool.eq_iff_iff]
    simp only [beq_iff_eq, decide_eq_true_eq]
    rw [← z1]
    omega
  rw [e, beq_self_eq_true]
  exact h
end Go.Gg
