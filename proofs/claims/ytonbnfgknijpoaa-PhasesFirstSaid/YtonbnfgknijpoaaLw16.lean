/- The law PhasesHolds, over the formula. Conditions: the arguments' words are words. -/
import Derived.Test.YtonbnfgknijpoaaM46c
import Derived.Test.YtonbnfgknijpoaaWLPhasesHolds
namespace Go.Gg
theorem fits_st {m : GMission} {l : List Int} (hh : OkH m l) : Fits m (stM m.Phases.length l l.length) l := by
  refine ⟨hh.1, fun i hi j hj => ?_⟩
  have h0 := (hh.2 i (by rw [hh.1]; exact hi)).1
  have hx := idx_lt (i := i) (n := m.P.length) (K := m.Phases.length) hi
  have hin : ∀ k, k ≤ j → inS (stM m.Phases.length l l.length) (i * m.Phases.length + k) = decide (at' l (i : Int) = (k : Int)) := fun k hk => by
    unfold stM
    rw [hh.1, bset_in (by omega), stP_at (by omega)]
  constructor
  · intro h
    refine ⟨(at' l (i : Int)).toNat, by omega, ?_⟩
    rw [hin _ (by omega), decide_eq_true_eq]; omega
  · rintro ⟨k, hk, h⟩
    rw [hin k hk, decide_eq_true_eq] at h
    omega
theorem st_lt {m : GMission} {l : List Int} (hh : OkH m l) : stM m.Phases.length l l.length < 2 ^ (m.P.length * m.Phases.length) := by
  unfold stM
  rw [hh.1]; exact bset_lt _
theorem unf_rng {m : GMission} (o : OkM m) (h128 : (unfN m).length ≤ 128) : rng (unfF m).Top := by
  have g := unf_FG o h128
  have h1 := g.top0
  have h2 := g.top
  have h3 := g.v24
  have h4 := g.n128
  unfold rng; omega
theorem law46_PhasesHolds_s {m : GMission} {l : List Int} {Q : Bool → Prop} (w : WrM m) (ll : l.length ≤ 9223372036854775807) (h : Q true) : law46_PhasesHolds_W m l Q := by
  refine ⟨fun y => y = false → FrM m ∧ histE m l = 0, ?_, ?_⟩
  · refine law46_awake_s (condB (fun hh => by cases hh) fun _ => ?_)
    refine law46_large_s w fun b hb => condB (fun _ hh => by cases hh) fun e => condT (fun _ hh => by cases hh) fun _ => ref46_CheckHistory_s w (hb e) ll fun hh => ⟨hb e, by simpa using hh⟩
  · intro y hy
    refine condB (fun _ => law46_awake_s h) fun hf => ?_
    obtain ⟨f, he⟩ := hy hf
    obtain ⟨hm, hh⟩ := okH he
    have o := okM w f hm
    refine phases_Unfold_s w f (fun hne => absurd hm hne) (fun _ _ => condB (fun _ => condB (fun _ => h) (fun hh => by cases hh)) (fun hh => by cases hh)) fun _ h128 => condB (fun hh => by cases hh) fun _ => ?_
    refine phases_Fails_s w f ll (fun hne => absurd he hne) fun _ => phases_State_s w f ll (fun hne => absurd he hne) fun _ => ?_
    have hchk : chk2 (unfF m) (stM m.Phases.length l l.length : Int) = 0 := chk2_ok (unf_FG o h128) (by
      show _ < 2 ^ Int.toNat ((m.P.length * m.Phases.length : Nat) : Int)
      rw [Int.toNat_natCast]; exact st_lt hh)
    refine formula_Value_s (unf_rng o h128) (fun hne => absurd hchk hne) fun _ => condB (fun _ => condB (fun _ => condB (fun _ => ?_) (fun hh => by cases hh)) (fun hh => by cases hh)) (fun hh => by cases hh)
    rw [Int.toNat_natCast, unf_FV o h128 (fits_st hh)]
    have e : decide ((failsM m l : Int) < (m.Phases.length : Int)) = decide (failsM m l < m.Phases.length) := decide_eq_decide.2 (by omega)
    rw [e]
    simpa using h
end Go.Gg
