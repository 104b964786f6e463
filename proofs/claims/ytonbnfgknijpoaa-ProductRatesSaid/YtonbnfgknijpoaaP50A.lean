/- Comparisons, rates, unavailability: the laws' small functions. Conditions: the numbers fit the machine. -/
import Derived.Test.YtonbnfgknijpoaaRefR
namespace Go.Gg

theorem eq_by {α : Type} [Inhabited α] {l m : List α} (hl : l.length = m.length) (h : ∀ i : Nat, i < l.length → at' l (i : Int) = at' m (i : Int)) : l = m := by
  refine List.ext_getElem hl fun i h1 h2 => ?_
  have := h i h1
  simp only [at', Int.toNat_natCast, List.getD_eq_getElem?_getD, List.getElem?_eq_getElem h1, List.getElem?_eq_getElem h2, Option.getD_some] at this
  exact this
instance decGRat : DecidableEq GRat := fun _ _ => decidable_of_iff _ eqR_iff
theorem base_Words_s {a b : List Int} {Q : Bool → Prop} (la : a.length ≤ 1099511627776) (h : Q (decide (a = b))) : base_Words_W a b Q := by
  refine condN (fun hc => ?_) (fun hc => ?_)
  · rw [decide_eq_false (fun e => hc (by rw [e]))] at h; exact h
  · have hl : a.length = b.length := by omega
    refine ⟨fun x => ∃ i : Nat, x = i ∧ i ≤ a.length ∧ ∀ j : Nat, j < i → at' a (j : Int) = at' b (j : Int), fun x => a.length - x.toNat, ⟨0, rfl, by omega, fun j hj => absurd hj (by omega)⟩, ?_⟩
    rintro _ ⟨i, rfl, hi, hI⟩
    refine condT (fun hc => ⟨⟨by omega, hc⟩, ⟨by omega, by omega⟩, condN (fun hne => ?_) (fun he => ⟨by unfold rng; omega, ⟨i + 1, by omega, by omega, fun j hj => ?_⟩, by dsimp only; omega⟩)⟩) (fun hc => ?_)
    · rw [decide_eq_false (fun e => hne (by rw [e]))] at h; exact h
    · rcases Nat.lt_or_ge j i with h1 | h1
      · exact hI j h1
      · obtain rfl : j = i := by omega
        exact he
    · rw [decide_eq_true (eq_by hl (fun j hj => hI j (by omega)))] at h; exact h
theorem base_Rat_s {a b : GRat} {Q : Bool → Prop} (la : a.Num.length ≤ 1099511627776) (ld : a.Den.length ≤ 1099511627776) (h : Q (decide (a = b))) : base_Rat_W a b Q := by
  obtain ⟨n, x, y⟩ := a
  obtain ⟨n', x', y'⟩ := b
  refine condE (fun h1 => ?_) (fun h1 => ?_)
  · refine base_Words_s la (condT (fun h2 => ?_) (fun h2 => ?_))
    · refine base_Words_s ld ?_
      dsimp only at h1 h2 ⊢
      subst h1 h2
      by_cases h3 : y = y'
      · subst h3; rw [decide_eq_true rfl] at h ⊢; exact h
      · rw [decide_eq_false h3]; rw [decide_eq_false (fun e => h3 (by injection e))] at h; exact h
    · rw [decide_eq_false (fun e => h2 (by injection e))] at h; exact h
  · rw [decide_eq_false (fun e => h1 (by injection e))] at h; exact h
theorem base_Rats_s {a b : List GRat} {Q : Bool → Prop} (la : a.length ≤ 1099511627776) (hs : ∀ i : Nat, i < a.length → (at' a (i : Int)).Num.length ≤ 1099511627776 ∧ (at' a (i : Int)).Den.length ≤ 1099511627776)
    (h : Q (decide (a = b))) : base_Rats_W a b Q := by
  refine condN (fun hc => ?_) (fun hc => ?_)
  · rw [decide_eq_false (fun e => hc (by rw [e]))] at h; exact h
  · have hl : a.length = b.length := by omega
    refine ⟨fun x => ∃ i : Nat, x = i ∧ i ≤ a.length ∧ ∀ j : Nat, j < i → at' a (j : Int) = at' b (j : Int), fun x => a.length - x.toNat, ⟨0, rfl, by omega, fun j hj => absurd hj (by omega)⟩, ?_⟩
    rintro _ ⟨i, rfl, hi, hI⟩
    refine condT (fun hc => ⟨⟨by omega, hc⟩, ⟨by omega, by omega⟩, _, base_Rat_s (hs i (by omega)).1 (hs i (by omega)).2 rfl, condB (fun hne => ?_) (fun he => ⟨by unfold rng; omega, ⟨i + 1, by omega, by omega, fun j hj => ?_⟩, by dsimp only; omega⟩)⟩) (fun hc => ?_)
    · rw [Bool.not_eq_true', decide_eq_false_iff_not] at hne
      rw [decide_eq_false (fun e => hne (by rw [e]))] at h; exact h
    · rw [Bool.not_eq_false', decide_eq_true_iff] at he
      rcases Nat.lt_or_ge j i with h1 | h1
      · exact hI j h1
      · obtain rfl : j = i := by omega
        exact he
    · rw [decide_eq_true (eq_by hl (fun j hj => hI j (by omega)))] at h; exact h
theorem base_Rats_same {a : List GRat} {Q : Bool → Prop} (la : a.length ≤ 1099511627776) (hs : ∀ i : Nat, i < a.length → (at' a (i : Int)).Num.length ≤ 1099511627776 ∧ (at' a (i : Int)).Den.length ≤ 1099511627776)
    (h : Q true) : base_Rats_W a a Q := base_Rats_s la hs (by rw [decide_eq_true rfl]; exact h)
/-- An error's number as the program's error. -/
def errO (e : Int) : Option Int := if e = 0 then none else some e
theorem base_Num_s {e : Int} {Q : Int → Prop} (h : Q e) : base_Num_W (errO e) Q := by
  unfold errO
  by_cases he : e = 0
  · rw [if_pos he]; subst he; exact condB (fun _ => h) (fun hh => by cases hh)
  · rw [if_neg he]; exact condB (fun hh => by cases hh) (fun _ => condB (fun _ => h) (fun hh => by cases hh))

def rateB (x : GRat) : Bool := okR x && decide (0 ≤ sgnR (valR x))
theorem rateB_nonneg {x : GRat} (h : rateB x = true) : 0 ≤ valR x := by
  simp only [rateB, Bool.and_eq_true, decide_eq_true_eq] at h
  have h2 := h.2
  unfold sgnR at h2
  refine Rat.num_nonneg.1 ?_
  split at h2
  · omega
  · split at h2
    · omega
    · omega
theorem product_rate_s {x : GRat} {Q : Bool → Prop} (fx : Fr x) (h : Q (rateB x)) : product_rate_W x Q := by
  unfold rateB at h
  refine rational_Valid_s fx (condB (fun hc => ?_) (fun hc => ?_))
  · rw [hc, Bool.true_and] at h
    exact rational_Sign_s fx h
  · rw [hc, Bool.false_and] at h; exact h
theorem ref50_rate_s {x : GRat} {Q : Bool → Prop} (fx : Fr x) (h : Q (rateB x)) : ref50_rate_W x Q := by
  unfold rateB at h
  refine ref02_Valid_s fx (condB (fun hc => ?_) (fun hc => ?_))
  · rw [hc, Bool.true_and] at h
    exact ref02_Sign_s fx h
  · rw [hc, Bool.false_and] at h; exact h
/-- The unavailability, or the error's number. -/
def unav (f r : GRat) : GRat × Int :=
  if rateB f = false ∨ rateB r = false then (ratOf 0, 3) else if valR f + valR r = 0 then (ratOf 0, 8) else (ratOf (valR f / (valR f + valR r)), 0)
theorem unav_RB {f r : GRat} {k : Nat} (hk : 1 ≤ k) (kf : RB k (valR f)) (kr : RB k (valR r)) : ∃ q, (unav f r).1 = ratOf q ∧ RB (3 * k + 1) q := by
  unfold unav
  split
  · exact ⟨0, rfl, RB_zero _ (by omega)⟩
  · split
    · exact ⟨0, rfl, RB_zero _ (by omega)⟩
    · exact ⟨_, rfl, (RB_div kf (RB_add kf kr)).mono (by omega)⟩
theorem product_Unavailable_s {f r : GRat} {k : Nat} {Q : GRat → Option Int → Prop} (ff : Fr f) (fr : Fr r) (kf : RB k (valR f)) (kr : RB k (valR r)) (hk : 3 * k + 2 ≤ 35184372088000)
    (h : Q (unav f r).1 (errO (unav f r).2)) : product_Unavailable_W f r Q := by
  unfold unav at h
  refine ⟨fun x => x = decide (rateB f = false ∨ rateB r = false), ?_, ?_⟩
  · refine product_rate_s ff (condB (fun hc => ?_) (fun hc => product_rate_s fr ?_))
    · simp only [Bool.not_eq_true'] at hc; simp [hc]
    · simp only [Bool.not_eq_false'] at hc; rw [hc]; cases rateB r <;> rfl
  · rintro _ rfl
    refine condT (fun hc => ?_) (fun hc => ?_)
    · rw [if_pos hc] at h; exact h
    · rw [if_neg hc] at h
      have ks := RB_add kf kr
      by_cases hz : valR f + valR r = 0
      · rw [if_pos hz] at h
        refine ⟨_, rational_Add_s ff fr kf kr (by omega) rfl, _, _, rational_Div_s ff (Fr_ratOf ks (by omega)) kf (by rw [valR_ratOf]; exact ks) (by omega) (fun _ => ⟨rfl, rfl⟩) (fun hh => absurd (by rw [valR_ratOf]; exact hz) hh), h⟩
      · rw [if_neg hz] at h
        refine ⟨_, rational_Add_s ff fr kf kr (by omega) rfl, _, _, rational_Div_s ff (Fr_ratOf ks (by omega)) kf (by rw [valR_ratOf]; exact ks) (by omega) (fun hh => absurd hh (by rw [valR_ratOf]; exact hz)) (fun _ => ⟨rfl, rfl⟩), ?_⟩
        rw [valR_ratOf]; exact h
theorem ref50_Unavailable_s {f r : GRat} {k : Nat} {Q : GRat → Int → Prop} (ff : Fr f) (fr : Fr r) (kf : RB k (valR f)) (kr : RB k (valR r)) (hk : 3 * k + 2 ≤ 35184372088000)
    (h : Q (unav f r).1 (unav f r).2) : ref50_Unavailable_W f r Q := by
  unfold unav at h
  refine ⟨fun x => x = decide (rateB f = false ∨ rateB r = false), ?_, ?_⟩
  · refine ref50_rate_s ff (condB (fun hc => ?_) (fun hc => ref50_rate_s fr ?_))
    · simp only [Bool.not_eq_true'] at hc; simp [hc]
    · simp only [Bool.not_eq_false'] at hc; rw [hc]; cases rateB r <;> rfl
  · rintro _ rfl
    refine condT (fun hc => ?_) (fun hc => ?_)
    · rw [if_pos hc] at h; exact h
    · rw [if_neg hc] at h
      have ks := RB_add kf kr
      by_cases hz : valR f + valR r = 0
      · rw [if_pos hz] at h
        refine ⟨_, ref02_Add_s ff fr kf kr (by omega) rfl, _, _, ref02_Div_s ff (Fr_ratOf ks (by omega)) kf (by rw [valR_ratOf]; exact ks) (by omega) (fun _ => ⟨rfl, rfl⟩) (fun hh => absurd (by rw [valR_ratOf]; exact hz) hh), h⟩
      · rw [if_neg hz] at h
        refine ⟨_, ref02_Add_s ff fr kf kr (by omega) rfl, _, _, ref02_Div_s ff (Fr_ratOf ks (by omega)) kf (by rw [valR_ratOf]; exact ks) (by omega) (fun hh => absurd hh (by rw [valR_ratOf]; exact hz)) (fun _ => ⟨rfl, rfl⟩), ?_⟩
        rw [valR_ratOf]; exact h
end Go.Gg
