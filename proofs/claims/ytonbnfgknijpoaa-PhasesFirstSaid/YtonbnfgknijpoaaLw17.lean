/- The law PhasesFirst, over the formula. Conditions: the arguments' words are words. -/
import Derived.Test.YtonbnfgknijpoaaLw16
import Derived.Test.YtonbnfgknijpoaaWLPhasesFirst
namespace Go.Gg
/-- When an event fails first in a state of the unfolded events. -/
def firstH (K s i : Nat) : Nat := fstT (fun k => inS s (i * K + k)) K
def firstL (K s n : Nat) : List Int := (List.range n).map fun i => ((firstH K s i : Nat) : Int)
theorem firstL_ok {m : GMission} {s : Nat} : OkH m (firstL m.Phases.length s m.P.length) := by
  refine ⟨by simp [firstL], fun i hi => ?_⟩
  have hi : i < m.P.length := by simpa [firstL] using hi
  unfold firstL
  rw [at_map_range hi]
  have := fstT_le (g := fun k => inS s (i * m.Phases.length + k)) m.Phases.length
  unfold firstH
  omega
theorem firstL_fits {m : GMission} {s : Nat} : Fits m s (firstL m.Phases.length s m.P.length) := by
  refine ⟨by simp [firstL], fun i hi j hj => ?_⟩
  unfold firstL
  rw [at_map_range hi]
  unfold firstH
  constructor
  · intro h
    exact ⟨_, by omega, fstT_at (g := fun k => inS s (i * m.Phases.length + k)) (n := m.Phases.length) (by omega)⟩
  · rintro ⟨k, hk, h⟩
    rcases Nat.lt_or_ge j (fstT (fun k => inS s (i * m.Phases.length + k)) m.Phases.length) with h1 | h1
    · have := fstT_before (g := fun k => inS s (i * m.Phases.length + k)) (n := m.Phases.length) (i := k) (by omega)
      rw [h] at this; cases this
    · omega
theorem bit_not {s k : Nat} (hs : s < 4294967296) : (bits .and .i64 ((s : Int) / 2 ^ (Int.toNat (k : Int))) 1 == 0) = !inS s k := by
  have e : ((s : Int) / 2 ^ (Int.toNat (k : Int))) = ((s / 2 ^ k : Nat) : Int) := by rw [Int.toNat_natCast]; simp
  have := Nat.div_le_self s (2 ^ k)
  unfold inS
  rw [e]
  generalize s / 2 ^ k = z at this
  rw [and_one64' (by omega) (by omega), Bool.eq_iff_iff]
  simp only [beq_iff_eq, Bool.not_eq_true', decide_eq_false_iff_not]
  omega
theorem law46_PhasesFirst_s {m : GMission} {state : Int} {Q : Bool → Prop} (w : WrM m) (h : Q true) : law46_PhasesFirst_W m state Q := by
  refine ⟨fun y => y = false → FrM m ∧ misE m = 0, ?_, ?_⟩
  · refine law46_awake_s (condB (fun hh => by cases hh) fun _ => ?_)
    exact law46_large_s w fun b hb => condB (fun _ hh => by cases hh) fun e => ref46_Check_s w (hb e) fun hh => ⟨hb e, by simpa using hh⟩
  · intro y hy
    refine condB (fun _ => law46_awake_s h) fun hf => ?_
    obtain ⟨f, hm⟩ := hy hf
    have o := okM w f hm
    have hp := o.p24
    have hk6 := o.k6
    have hn := o.n24
    have e1 : (m.P.length : Int) * (m.Phases.length : Int) = ((m.P.length * m.Phases.length : Nat) : Int) := by simp
    refine ref46_Events_d o.k0 ?_
    rw [← o.ev, e1]
    refine condT (fun _ => h) fun h0 => ⟨rngN (by omega), shl_ok (by omega), ?_⟩
    obtain ⟨s, rfl⟩ := Int.eq_ofNat_of_zero_le (show 0 ≤ state by omega)
    rw [Int.one_mul, Int.toNat_natCast]
    refine condT (fun _ => h) fun hlt => ?_
    have hs : s < 2 ^ (m.P.length * m.Phases.length) := by
      have e : (2 ^ (m.P.length * m.Phases.length) : Int) = ((2 ^ (m.P.length * m.Phases.length) : Nat) : Int) := by simp
      rw [e] at hlt; omega
    have hs32 : s < 4294967296 := Nat.lt_of_lt_of_le hs (Nat.le_trans (pow24 hn) (by decide))
    refine phases_Unfold_s w f (fun hne => absurd hm hne) (fun _ _ => condB (fun _ => condB (fun _ => h) (fun hh => by cases hh)) (fun hh => by cases hh)) fun _ h128 => condB (fun hh => by cases hh) fun _ => ?_
    refine loopUp (n := m.P.length) (fun i => ((i : Int), firstL m.Phases.length s i)) (fun y => y.1) 0 (fun i => by simp) (by simp [firstL]) ?_ ?_
    · intro i next hi hnx
      have hx := idx_lt (i := i) (n := m.P.length) (K := m.Phases.length) hi
      have e2 : (i : Int) * (m.Phases.length : Int) = ((i * m.Phases.length : Nat) : Int) := by simp
      refine condT (fun _ => ⟨fun y => y = ((firstH m.Phases.length s i : Nat) : Int), ?_, ?_⟩) (fun hc => absurd (show (i : Int) < (m.P.length : Int) by omega) hc)
      · rw [e2]
        refine loopInv (n := m.Phases.length) (fun k y => y = (k : Int) ∧ ∀ a, a < k → inS s (i * m.Phases.length + a) = false) (fun y => y) 0 (fun k y h => by rw [h.1, Int.add_zero]) ⟨rfl, fun a ha => by omega⟩ ?_ ?_
        · rintro k _ next3 hk ⟨rfl, hI⟩ hn3
          have e3 : ((i * m.Phases.length : Nat) : Int) + (k : Int) = ((i * m.Phases.length + k : Nat) : Int) := by simp
          refine condT (fun _ => ?_) (fun hc => absurd (show (k : Int) < (m.Phases.length : Int) by omega) hc)
          rw [e3]
          refine ⟨rngN (by omega), rngN (by omega), ⟨by omega, by omega⟩, ?_⟩
          rw [bit_not hs32]
          refine condB (fun hb => ⟨by unfold rng; omega, hn3 _ ⟨by omega, fun a ha => ?_⟩⟩) (fun hb => ?_)
          · rcases Nat.lt_or_ge a k with h1 | h1
            · exact hI a h1
            · obtain rfl : a = k := by omega
              simpa using hb
          · have e4 : firstH m.Phases.length s i = k := fstT_hit (g := fun k => inS s (i * m.Phases.length + k)) hI (by simpa using hb) _ hk
            rw [e4]
        · rintro _ next3 ⟨rfl, hI⟩
          have e4 : firstH m.Phases.length s i = m.Phases.length := fstT_none _ hI
          refine condT (fun hc => absurd hc (by omega)) (fun _ => ?_)
          rw [e4]
      · rintro _ rfl
        refine ⟨by simp [firstL]; omega, by unfold rng; omega, ?_⟩
        have := range_snoc (g := fun i => ((firstH m.Phases.length s i : Nat) : Int)) (n := i)
        unfold firstL at hnx ⊢
        rw [this]
        exact hnx
    · intro next
      refine condT (fun hc => absurd hc (by omega)) fun _ => ?_
      have hh := firstL_ok (m := m) (s := s)
      refine phases_Fails_s w f (by rw [hh.1]; omega) (fun hne => absurd (okH_E hm hh) hne) fun _ => ?_
      have hchk : chk2 (unfF m) (s : Int) = 0 := chk2_ok (unf_FG o h128) (by
        show _ < 2 ^ Int.toNat ((m.P.length * m.Phases.length : Nat) : Int)
        rw [Int.toNat_natCast]; exact hs)
      refine formula_Value_s (unf_rng o h128) (fun hne => absurd hchk hne) fun _ => condB (fun _ => condB (fun _ => ?_) (fun hh => by cases hh)) (fun hh => by cases hh)
      rw [Int.toNat_natCast, unf_FV o h128 firstL_fits]
      have e : decide ((failsM m (firstL m.Phases.length s m.P.length) : Int) < (m.Phases.length : Int)) = decide (failsM m (firstL m.Phases.length s m.P.length) < m.Phases.length) := decide_eq_decide.2 (by omega)
      rw [e]
      simpa using h
end Go.Gg
