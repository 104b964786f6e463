/- Chapter 14: two neighbours exchanged. Conditions: none. -/
import Derived.Test.YtiamkdpljeemkaaMb
import Derived.Test.YtiamkdpljeemkaaWa
/- Chapter 14: two neighbours exchanged. Conditions: none. -/
namespace Go.Gg
theorem exO_lev {a : List Int} (ha : Or14 a) {l : Nat} (hl : l + 1 < a.length) {v : Nat} (hv : v < a.length) : levO (exO a l) v = exP (levO a) l v := by
  have hx := exO_ord ha hl
  have hb := ha.bij
  have h1 := (hb.lt v hv)
  have key : ∀ k, k < a.length → swp l k = levO a v → levO (exO a l) v = k := fun k hk he => by
    have h2 := hx.lev_at (i := k) (by rw [exO_len]; exact hk)
    rw [exO_at hl, he, (ha.at_lev hv).2, Int.toNat_natCast] at h2
    exact h2
  unfold exP
  split
  · rename_i h
    refine key (l + 1) hl ?_
    unfold swp
    rw [if_neg (by omega), if_pos rfl, h]
  · rename_i h
    split
    · rename_i h2
      refine key l (by omega) ?_
      unfold swp
      rw [if_pos rfl, h2]
    · rename_i h2
      refine key (levO a v) h1 ?_
      unfold swp
      rw [if_neg h, if_neg h2]
theorem law14_OrderExchanges_s {a b : List Int} {level : Int} {Q : Bool → Prop} (h : Q true) : law14_OrderExchanges_W a b level Q := by
  refine ⟨fun x => x = false → (Or14 a ∧ Or14 b) ∧ a.length = b.length ∧ 2 ≤ a.length, law14_awake_s (condB (fun hc => by cases hc) (fun _ => law14_valid_s (condB (fun _ hc => by cases hc) (fun h1 => law14_valid_s (condB (fun _ hc => by cases hc) (fun h2 => condN (fun _ hc => by cases hc) (fun h4 hb => ?_))))))), fun x hx => condB (fun _ => law14_awake_s h) (fun hx0 => ?_)⟩
  · have := of_decide_eq_false hb
    exact ⟨⟨validO_iff.1 (by simpa using h1), validO_iff.1 (by simpa using h2)⟩, by omega, by omega⟩
  obtain ⟨⟨ha, hb⟩, l1, l2⟩ := hx hx0
  have hle := ha.le
  obtain ⟨l, hlv⟩ : ∃ l : Nat, max 0 (min level ((a.length : Int) - 2)) = l := ⟨(max 0 (min level ((a.length : Int) - 2))).toNat, by omega⟩
  have hl : l + 1 < a.length := by omega
  have hx := exO_ord ha hl
  have hxl : (exO a (l : Int)).length = a.length := exO_len
  refine ⟨by unfold rng; omega, ?_⟩
  unfold base_Clip_W
  rw [hlv]
  have e1 : exE a (l : Int) = 0 := exE_zero.2 ⟨ha, by omega, by omega⟩
  have e2 : exE (exO a (l : Int)) (l : Int) = 0 := exE_zero.2 ⟨hx, by omega, by rw [hxl]; omega⟩
  refine Exchange_s (fun hc => absurd e1 hc) (fun _ => condB (fun hc => by cases hc) (fun _ => law14_valid_s ?_))
  rw [validO_iff.2 hx]
  refine condB (fun hc => by cases hc) (fun _ => condN (fun hc => absurd (by rw [hxl]) hc) (fun _ => Exchange_s (fun hc => absurd e2 hc) (fun _ => Distance_s (fun hc => absurd (disE_zero.2 ⟨ha, hb, l1⟩) hc) (fun _ => Distance_s (fun hc => absurd (disE_zero.2 ⟨hx, hb, by omega⟩) hc) (fun _ => Distance_s (fun hc => absurd (disE_zero.2 ⟨ha, hx, by omega⟩) hc) (fun _ => ?_))))))
  rw [exO_twice hl]
  have ba := ha.bij
  have bb := hb.bij
  rw [← l1] at bb
  have c1 : disM (exO a (l : Int)) b = invD a.length (exP (levO a) l) (levO b) := by
    unfold disM invD
    rw [hxl]
    refine sm_congr _ fun v hv => sm_congr _ fun u hu => ?_
    rw [exO_lev ha hl hv, exO_lev ha hl hu]
  have c2 : disM a (exO a (l : Int)) = 1 := by
    have : disM a (exO a (l : Int)) = invD a.length (levO a) (exP (levO a) l) := by
      unfold disM invD
      refine sm_congr _ fun v hv => sm_congr _ fun u hu => ?_
      rw [exO_lev ha hl hv, exO_lev ha hl hu]
    rw [this, inv_self ba hl]
  have hd := inv_exchange ba bb hl
  rw [← c1] at hd
  change disM a b = _ ∨ _ = disM a b + 1 at hd
  have m1 : 2 * disM a b ≤ a.length * (a.length - 1) := invD_le
  have m2 : a.length * (a.length - 1) ≤ 24 * 24 := Nat.mul_le_mul (by omega) (by omega)
  rw [c2]
  refine condB (fun _ => condB (fun _ => condB (fun _ => condB (fun _ => base_Ints_s (by omega) (condB (fun _ => ⟨by unfold rng; omega, condE (fun _ => h) (fun hn => ⟨by unfold rng; omega, condE (fun _ => h) (fun hn2 => by omega)⟩)⟩) (fun hc => by simp at hc))) (fun hc => by cases hc)) (fun hc => by cases hc)) (fun hc => by cases hc)) (fun hc => by cases hc)
end Go.Gg
