/- The probability that a formula is true. Conditions: the numbers fit the machine. -/
import Derived.Test.YtonbnfgknijpoaaM50b
import Derived.Test.YtonbnfgknijpoaaMf
import Derived.Test.YtonbnfgknijpoaaWS
namespace Go.Gg

def dwD (dist : List GRat) (f : GFormula) (x : Nat) : Rat := if FV f x = true then valR (at' dist (x : Int)) else 0
/-- The probability of a formula, and the error's number. -/
def downM (dist : List GRat) (f : GFormula) : GRat × Int :=
  if (compM dist).2 ≠ 0 then (ratOf 0, (compM dist).2) else if chkM f ≠ 0 then (ratOf 0, chkM f) else if f.Vars ≠ ((compM dist).1 : Int) then (ratOf 0, 11)
  else (ratOf (sumTo (dwD dist f) dist.length), 0)
theorem dwD_RB {dist : List GRat} {f : GFormula} {B : Nat} (hB : 1 ≤ B) (hf : Frs B dist) {x : Nat} (hx : x < dist.length) : RB B (dwD dist f x) := by
  unfold dwD
  split
  · exact (hf x hx).2
  · exact RB_zero _ hB
theorem dw_sum {dist : List GRat} {f : GFormula} {B : Nat} (hB1 : 1 ≤ B) (hB : B ≤ 1000000000) (hf : Frs B dist) (hd : dist.length ≤ 256) {j : Nat} (hj : j ≤ dist.length) : Rp (256 * (B + 1) + 1) (ratOf (sumTo (dwD dist f) j)) (sumTo (dwD dist f) j) :=
  .of ((sumTo_RB (B := B) j (fun i hi => dwD_RB hB1 hf (by omega))).mono (by
    have := Nat.mul_le_mul_right (B + 1) (show j ≤ 256 by omega)
    omega)) (by simp only [cap]; omega)
theorem downM_Rp {dist : List GRat} {f : GFormula} {B : Nat} (hB1 : 1 ≤ B) (hB : B ≤ 1000000000) (hf : Frs B dist) : ∃ k q, Rp k (downM dist f).1 q := by
  unfold downM
  split
  · exact ⟨1, 0, .zero (by omega) (by decide)⟩
  split
  · exact ⟨1, 0, .zero (by omega) (by decide)⟩
  split
  · exact ⟨1, 0, .zero (by omega) (by decide)⟩
  · rename_i h1 _ _
    exact ⟨_, _, dw_sum hB1 hB hf (compM_ok (Classical.not_not.1 h1)).2.2 (Nat.le_refl _)⟩
theorem margM_Rp {dist : List GRat} {i : Int} {B : Nat} (hB1 : 1 ≤ B) (hB : B ≤ 1000000000) (hf : Frs B dist) : ∃ k q, Rp k (margM dist i).1 q := by
  unfold margM
  split
  · exact ⟨1, 0, .zero (by omega) (by decide)⟩
  split
  · exact ⟨1, 0, .zero (by omega) (by decide)⟩
  · rename_i h1 _
    have h256 := (compM_ok (Classical.not_not.1 h1)).2.2
    exact ⟨_, _, .of (k := 256 * (B + 1) + 1) ((sumTo_RB dist.length (fun i hi => mgD_RB hB1 hf hi)).mono (by
      have := Nat.mul_le_mul_right (B + 1) h256
      omega)) (by simp only [cap]; omega)⟩
theorem product_Down_s {dist : List GRat} {f : GFormula} {B : Nat} {Q : GRat → Option Int → Prop} (hl : dist.length ≤ 9223372036854775807) (ht : rng f.Top) (hB1 : 1 ≤ B) (hB : B ≤ 1000000000) (hf : Frs B dist) (h : Q (downM dist f).1 (errO (downM dist f).2)) : product_Down_W dist f Q := by
  refine product_components_s hl (fun j hj => (hf j hj).1) ?_
  unfold downM at h
  rw [isSome_errO]
  refine condT (fun he => ?_) (fun he => ?_)
  · rw [if_pos he] at h; exact h
  rw [if_neg he] at h
  obtain ⟨hlen, h8, h256⟩ := compM_ok (Classical.not_not.1 he)
  refine formula_Check_s ht ?_
  rw [isSome_errO]
  refine condT (fun hc => ?_) (fun hc => ?_)
  · rw [if_pos hc] at h; exact h
  rw [if_neg hc] at h
  refine condN (fun hv => ?_) (fun hv => ?_)
  · rw [if_pos hv] at h; exact h
  rw [if_neg (fun hh => hh hv)] at h
  refine loopUp (n := dist.length) (fun i => ((i : Int), ratOf (sumTo (dwD dist f) i))) (fun y => y.1) 0 (fun i => by omega) rfl ?_ ?_
  · intro i next hi hn
    refine condT (fun hc2 => ⟨⟨by omega, hc2⟩, ?_⟩) (fun hc2 => absurd (show (i : Int) < (dist.length : Int) by omega) hc2)
    have hk : chk2 f (i : Int) = 0 := by
      unfold chk2
      rw [if_neg hc, if_neg]
      have e : f.Vars.toNat = (compM dist).1 := by omega
      rw [e]
      have e2 : ((2 ^ (compM dist).1 : Nat) : Int) = (2 ^ (compM dist).1 : Int) := by simp
      rw [← e2]
      omega
    refine formula_Value_s ht (fun hh => absurd hk hh) (fun _ => condB (fun hh => by cases hh) (fun _ => ?_))
    rw [Int.toNat_natCast]
    have hs := dw_sum (f := f) hB1 hB hf h256 (show i ≤ dist.length by omega)
    refine condB (fun hb => ?_) (fun hb => ⟨by unfold rng; omega, ?_⟩)
    · refine add_p hs (.self (hf i hi).1 (hf i hi).2) (by simp only [cap]; omega) fun _ => ⟨by unfold rng; omega, ?_⟩
      rw [sumTo, show dwD dist f i = valR (at' dist (i : Int)) from if_pos hb] at hn
      exact hn
    · rw [sumTo, show dwD dist f i = 0 from if_neg (by rw [hb]; simp), Rat.add_zero] at hn
      exact hn
  · intro next
    exact condT (fun hc2 => absurd hc2 (by omega)) (fun _ => h)
theorem ref50_Down_s {dist : List GRat} {f : GFormula} {B : Nat} {Q : GRat → Int → Prop} (hl : dist.length ≤ 9223372036854775807) (ht : rng f.Top) (hB1 : 1 ≤ B) (hB : B ≤ 1000000000) (hf : Frs B dist) (h : Q (downM dist f).1 (downM dist f).2) : ref50_Down_W dist f Q := by
  refine ref50_Size_s hl (fun j hj => (hf j hj).1) ?_
  unfold downM at h
  refine ⟨fun y => y = if (compM dist).2 ≠ 0 then (compM dist).2 else chkM f, ?_, ?_⟩
  · refine condE (fun he => ref08_Check_s ht ?_) (fun he => ?_)
    · rw [if_neg (fun hh => hh he)]
    · rw [if_pos he]
  rintro _ rfl
  by_cases he : (compM dist).2 ≠ 0
  · rw [if_pos he] at h ⊢
    exact condN (fun _ => h) (fun hh => absurd hh he)
  rw [if_neg he] at h ⊢
  obtain ⟨hlen, h8, h256⟩ := compM_ok (Classical.not_not.1 he)
  refine condN (fun hc => ?_) (fun hc => ?_)
  · rw [if_pos hc] at h; exact h
  rw [if_neg (fun hh => hh hc)] at h
  have g := chk_ok.1 hc
  refine condN (fun hv => ?_) (fun hv => ?_)
  · rw [if_pos hv] at h; exact h
  rw [if_neg (fun hh => hh hv)] at h
  refine loopUp (n := dist.length) (fun i => ((i : Int), ratOf (sumTo (dwD dist f) i))) (fun y => y.1) 0 (fun i => by omega) rfl ?_ ?_
  · intro i next hi hn
    refine condT (fun hc2 => ⟨⟨by omega, hc2⟩, ref08_Value_s g (by omega) ?_⟩) (fun hc2 => absurd (show (i : Int) < (dist.length : Int) by omega) hc2)
    have hs := dw_sum (f := f) hB1 hB hf h256 (show i ≤ dist.length by omega)
    refine condB (fun hb => ?_) (fun hb => ⟨by unfold rng; omega, ?_⟩)
    · refine add_q hs (.self (hf i hi).1 (hf i hi).2) (by simp only [cap]; omega) fun _ => ⟨by unfold rng; omega, ?_⟩
      rw [sumTo, show dwD dist f i = valR (at' dist (i : Int)) from if_pos hb] at hn
      exact hn
    · rw [sumTo, show dwD dist f i = 0 from if_neg (by rw [hb]; simp), Rat.add_zero] at hn
      exact hn
  · intro next
    exact condT (fun hc2 => absurd hc2 (by omega)) (fun _ => h)
theorem law08_Light_s {f : GFormula} {Q : Bool → Prop} (h : ∀ b, Q b) : law08_Light_W f Q := by
  refine condT (fun _ => h _) (fun hc => ?_)
  exact scanW (fun _ => False) (by omega) (fun i next hi hI hnx => ⟨⟨by omega, by omega⟩, condT (fun _ => h _) (fun _ => hnx (fun hh => hh))⟩) (fun _ => h _)
end Go.Gg
