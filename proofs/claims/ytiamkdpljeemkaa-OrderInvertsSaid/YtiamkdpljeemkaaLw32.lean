/- Chapter 14: the positions of the positions. Conditions: none. -/
import Derived.Test.YtiamkdpljeemkaaMb
import Derived.Test.YtiamkdpljeemkaaWa
/- Chapter 14: the positions of the positions. Conditions: none. -/
namespace Go.Gg
theorem law14_OrderInverts_s {o : List Int} {Q : Bool → Prop} (h : Q true) : law14_OrderInverts_W o Q := by
  refine ⟨fun x => x = false → Or14 o, law14_awake_s (condB (fun hc => by cases hc) (fun _ => law14_valid_s (fun hb => validO_iff.1 (by simpa using hb)))), fun x hx => condB (fun _ => law14_awake_s h) (fun hx0 => ?_)⟩
  have ho := hx hx0
  have hp := posO_ord ho
  have hle := ho.le
  have hb := ho.bij
  refine Positions_s (fun hc => absurd (ordE_of ho) hc) (fun _ => condB (fun hc => by cases hc) (fun _ => condN (fun hc => absurd (by rw [posO_len]) hc) (fun _ => Positions_s (fun hc => absurd (ordE_of hp) hc) (fun _ => ?_))))
  rw [posO_twice ho]
  refine loopUp (n := o.length) (fun i => (i : Int)) (fun y => y) 0 (fun i => by omega) rfl (fun i next hi hn => ?_) (fun next => ?_)
  · have h1 := ho.atN_lt hi
    refine condT (fun _ => ⟨by omega, by rw [h1.1, posO_len]; omega, ?_⟩) (fun hc => absurd (show (i : Int) < o.length by omega) hc)
    rw [h1.1, posO_at h1.2, hb.pa i hi]
    exact condN (fun hc => absurd rfl hc) (fun _ => ⟨by unfold rng; omega, by simpa using hn⟩)
  · exact condT (fun hc => by omega) (fun _ => condB (fun _ => base_Ints_s (by omega) (by rw [decide_eq_true rfl]; exact h)) (fun hc => by cases hc))
end Go.Gg
