/- Chains of components: the moves of a state, in the program's order and in the reference's. Conditions: none. -/
import Derived.Test.YtonbnfgknijpoaaM50c
namespace Go.Gg

def flp (s i : Nat) : Nat := if s / 2 ^ i % 2 = 1 then s - 2 ^ i else s + 2 ^ i
def rateAt (f r : List GRat) (s i : Nat) : GRat := if s / 2 ^ i % 2 = 1 then at' r (i : Int) else at' f (i : Int)
def good (f r : List GRat) (s i : Nat) : Bool := decide (0 < sgnR (valR (rateAt f r s i)))
def itm (f r : List GRat) (s i : Nat) : GMove := ⟨(s : Int), (flp s i : Int), rateAt f r s i⟩
def dn (f r : List GRat) (s n : Nat) : Nat → List GMove
  | 0 => []
  | k + 1 => dn f r s n k ++ (if s / 2 ^ (n - 1 - k) % 2 = 1 ∧ good f r s (n - 1 - k) = true then [itm f r s (n - 1 - k)] else [])
def up (f r : List GRat) (s : Nat) : Nat → List GMove
  | 0 => []
  | k + 1 => up f r s k ++ (if s / 2 ^ k % 2 = 0 ∧ good f r s k = true then [itm f r s k] else [])
def ri (f r : List GRat) (s t : Nat) : Nat → List GMove
  | 0 => []
  | k + 1 => ri f r s t k ++ (if t = flp s k ∧ good f r s k = true then [itm f r s k] else [])
def rt (f r : List GRat) (s n : Nat) : Nat → List GMove
  | 0 => []
  | t + 1 => rt f r s n t ++ ri f r s t n
def mvs (f r : List GRat) (n : Nat) : Nat → List GMove
  | 0 => []
  | s + 1 => mvs f r n s ++ (dn f r s n n ++ up f r s n)
theorem bit_le {s i : Nat} (h : s / 2 ^ i % 2 = 1) : 2 ^ i ≤ s := by
  rcases Nat.lt_or_ge s (2 ^ i) with h1 | h1
  · rw [Nat.div_eq_of_lt h1] at h; cases h
  · exact h1
theorem pow_lt {i j : Nat} (h : i < j) : 2 ^ i < 2 ^ j := Nat.pow_lt_pow_right (by omega) h
theorem pow_inj {i j : Nat} (h : 2 ^ i = 2 ^ j) : i = j := by
  rcases Nat.lt_trichotomy i j with h1 | h1 | h1
  · have := pow_lt h1; omega
  · exact h1
  · have := pow_lt h1; omega
theorem flp_down {s i : Nat} (h : s / 2 ^ i % 2 = 1) : flp s i + 2 ^ i = s := by
  have := bit_le h
  rw [flp, if_pos h]; omega
theorem flp_up {s i : Nat} (h : s / 2 ^ i % 2 = 0) : flp s i = s + 2 ^ i := by rw [flp, if_neg (by omega)]
theorem bit01 (s i : Nat) : s / 2 ^ i % 2 = 1 ∨ s / 2 ^ i % 2 = 0 := by omega
theorem flp_inj {s i j : Nat} (h : flp s i = flp s j) : i = j := by
  have hi : 0 < 2 ^ i := Nat.pow_pos (by omega)
  have hj : 0 < 2 ^ j := Nat.pow_pos (by omega)
  rcases bit01 s i with h1 | h1 <;> rcases bit01 s j with h2 | h2
  · have := flp_down h1; have := flp_down h2; exact pow_inj (by omega)
  · have := flp_down h1; have := flp_up h2; omega
  · have := flp_up h1; have := flp_down h2; omega
  · have := flp_up h1; have := flp_up h2; exact pow_inj (by omega)
section
variable {f r : List GRat} {s n : Nat}
theorem ri_none {t : Nat} : ∀ k, (∀ i, i < k → ¬ (t = flp s i ∧ good f r s i = true)) → ri f r s t k = []
  | 0, _ => rfl
  | k + 1, h => by rw [ri, ri_none k (fun i hi => h i (by omega)), if_neg (h k (by omega))]; rfl
theorem ri_one {t i : Nat} (h : t = flp s i ∧ good f r s i = true) : ∀ k, i < k → ri f r s t k = [itm f r s i]
  | 0, hk => absurd hk (by omega)
  | k + 1, hk => by
    rw [ri]
    rcases Nat.lt_or_ge i k with h1 | h1
    · rw [ri_one h k h1, if_neg (fun hh => by have := flp_inj (h.1.symm.trans hh.1); omega)]; rfl
    · obtain rfl : i = k := by omega
      rw [ri_none i (fun j hj hh => by have := flp_inj (h.1.symm.trans hh.1); omega), if_pos h]; rfl
abbrev atT (t : Nat) (l : List GMove) : List GMove := l.filter (fun m => decide (m.To = (t : Int)))
theorem atT_app {t : Nat} {l m : List GMove} : atT t (l ++ m) = atT t l ++ atT t m := List.filter_append ..
theorem atT_itm {t i : Nat} : atT t [itm f r s i] = if t = flp s i then [itm f r s i] else [] := by
  by_cases h : t = flp s i
  · rw [if_pos h]
    simp [atT, itm, h]
  · rw [if_neg h]
    simp only [atT, itm, List.filter_cons, List.filter_nil]
    rw [if_neg]
    simp only [decide_eq_true_eq]
    omega
theorem atT_if {t i : Nat} {c : Prop} [Decidable c] : atT t (if c then [itm f r s i] else []) = if c ∧ t = flp s i then [itm f r s i] else [] := by
  by_cases hc : c
  · rw [if_pos hc, atT_itm]
    by_cases ht : t = flp s i
    · rw [if_pos ht, if_pos ⟨hc, ht⟩]
    · rw [if_neg ht, if_neg (fun hh => ht hh.2)]
  · rw [if_neg hc, if_neg (fun hh => hc hh.1)]; rfl
theorem up_none {t : Nat} : ∀ k, (∀ i, i < k → ¬ ((s / 2 ^ i % 2 = 0 ∧ good f r s i = true) ∧ t = flp s i)) → atT t (up f r s k) = []
  | 0, _ => rfl
  | k + 1, h => by rw [up, atT_app, up_none k (fun i hi => h i (by omega)), atT_if, if_neg (h k (by omega))]; rfl
theorem up_one {t i : Nat} (h : (s / 2 ^ i % 2 = 0 ∧ good f r s i = true) ∧ t = flp s i) : ∀ k, i < k → atT t (up f r s k) = [itm f r s i]
  | 0, hk => absurd hk (by omega)
  | k + 1, hk => by
    rw [up, atT_app, atT_if]
    rcases Nat.lt_or_ge i k with h1 | h1
    · rw [up_one h k h1, if_neg (fun hh => by have := flp_inj (h.2.symm.trans hh.2); omega)]; rfl
    · obtain rfl : i = k := by omega
      rw [up_none i (fun j hj hh => by have := flp_inj (h.2.symm.trans hh.2); omega), if_pos h]; rfl
theorem dn_none {t : Nat} : ∀ k, (∀ i, i < k → ¬ ((s / 2 ^ (n - 1 - i) % 2 = 1 ∧ good f r s (n - 1 - i) = true) ∧ t = flp s (n - 1 - i))) → atT t (dn f r s n k) = []
  | 0, _ => rfl
  | k + 1, h => by rw [dn, atT_app, dn_none k (fun i hi => h i (by omega)), atT_if, if_neg (h k (by omega))]; rfl
theorem dn_one {t i : Nat} (h : (s / 2 ^ (n - 1 - i) % 2 = 1 ∧ good f r s (n - 1 - i) = true) ∧ t = flp s (n - 1 - i)) : ∀ k, i < k → k ≤ n → atT t (dn f r s n k) = [itm f r s (n - 1 - i)]
  | 0, hk, _ => absurd hk (by omega)
  | k + 1, hk, hn => by
    rw [dn, atT_app, atT_if]
    rcases Nat.lt_or_ge i k with h1 | h1
    · rw [dn_one h k h1 (by omega), if_neg (fun hh => by have := flp_inj (h.2.symm.trans hh.2); omega)]; rfl
    · obtain rfl : i = k := by omega
      rw [dn_none i (fun j hj hh => by have := flp_inj (h.2.symm.trans hh.2); omega), if_pos h]; rfl
/-- The reference's moves to a state are those of the program. -/
theorem ri_eq (t : Nat) : ri f r s t n = atT t (dn f r s n n ++ up f r s n) := by
  rw [atT_app]
  by_cases h : ∃ i, i < n ∧ (t = flp s i ∧ good f r s i = true)
  · obtain ⟨i, hi, h1⟩ := h
    rw [ri_one h1 n hi]
    rcases bit01 s i with hb | hb
    · have e : n - 1 - (n - 1 - i) = i := by omega
      rw [dn_one (i := n - 1 - i) (by rw [e]; exact ⟨⟨hb, h1.2⟩, h1.1⟩) n (by omega) (Nat.le_refl n), e, up_none n (fun j hj hh => by
        have := flp_inj (h1.1.symm.trans hh.2); subst this; omega)]
      rfl
    · rw [up_one ⟨⟨hb, h1.2⟩, h1.1⟩ n hi, dn_none n (fun j hj hh => by
        have := flp_inj (h1.1.symm.trans hh.2); subst this; omega)]
      rfl
  · rw [not_exists] at h
    rw [ri_none n (fun i hi hh => h i ⟨hi, hh⟩), up_none n (fun i hi hh => h i ⟨hi, hh.2, hh.1.2⟩), dn_none n (fun i hi hh => h (n - 1 - i) ⟨by omega, hh.2, hh.1.2⟩)]
    rfl
/-- Sorted by their targets. -/
def Srt (l : List GMove) : Prop := l.Pairwise fun a b => a.To < b.To
theorem dn_To : ∀ k, k ≤ n → ∀ m ∈ dn f r s n k, ∃ i, n - k ≤ i ∧ i < n ∧ s / 2 ^ i % 2 = 1 ∧ m = itm f r s i ∧ good f r s i = true
  | 0, _, m, hm => by simp [dn] at hm
  | k + 1, hk, m, hm => by
    rw [dn, List.mem_append] at hm
    rcases hm with hm | hm
    · obtain ⟨i, h1, h2, h3⟩ := dn_To k (by omega) m hm
      exact ⟨i, by omega, h2, h3⟩
    · split at hm
      · rename_i hc
        exact ⟨n - 1 - k, by omega, by omega, hc.1, by simpa using hm, hc.2⟩
      · simp at hm
theorem up_To : ∀ k, ∀ m ∈ up f r s k, ∃ i, i < k ∧ s / 2 ^ i % 2 = 0 ∧ m = itm f r s i ∧ good f r s i = true
  | 0, m, hm => by simp [up] at hm
  | k + 1, m, hm => by
    rw [up, List.mem_append] at hm
    rcases hm with hm | hm
    · obtain ⟨i, h1, h3⟩ := up_To k m hm
      exact ⟨i, by omega, h3⟩
    · split at hm
      · rename_i hc
        exact ⟨k, by omega, hc.1, by simpa using hm, hc.2⟩
      · simp at hm
theorem dn_srt : ∀ k, k ≤ n → Srt (dn f r s n k)
  | 0, _ => List.Pairwise.nil
  | k + 1, hk => by
    unfold Srt
    rw [dn, List.pairwise_append]
    refine ⟨dn_srt k (by omega), by split <;> simp, fun a ha b hb => ?_⟩
    split at hb
    · rename_i hc
      obtain ⟨i, h1, h2, h3, rfl, _⟩ := dn_To k (by omega) a ha
      obtain rfl : b = itm f r s (n - 1 - k) := by simpa using hb
      have e1 := flp_down h3
      have e2 := flp_down hc.1
      have := pow_lt (show n - 1 - k < i by omega)
      show (flp s i : Int) < (flp s (n - 1 - k) : Int)
      omega
    · simp at hb
theorem up_srt : ∀ k, Srt (up f r s k)
  | 0 => List.Pairwise.nil
  | k + 1 => by
    unfold Srt
    rw [up, List.pairwise_append]
    refine ⟨up_srt k, by split <;> simp, fun a ha b hb => ?_⟩
    split at hb
    · rename_i hc
      obtain ⟨i, h1, h3, rfl, _⟩ := up_To k a ha
      obtain rfl : b = itm f r s k := by simpa using hb
      have e1 := flp_up h3
      have e2 := flp_up hc.1
      have := pow_lt h1
      show (flp s i : Int) < (flp s k : Int)
      omega
    · simp at hb
theorem all_srt : Srt (dn f r s n n ++ up f r s n) := by
  unfold Srt
  rw [List.pairwise_append]
  refine ⟨dn_srt n (Nat.le_refl n), up_srt n, fun a ha b hb => ?_⟩
  obtain ⟨i, _, _, h3, rfl, _⟩ := dn_To n (Nat.le_refl n) a ha
  obtain ⟨j, _, h4, rfl, _⟩ := up_To n b hb
  have e1 := flp_down h3
  have e2 := flp_up h4
  have hi : 0 < 2 ^ i := Nat.pow_pos (by omega)
  have hj : 0 < 2 ^ j := Nat.pow_pos (by omega)
  show (flp s i : Int) < (flp s j : Int)
  omega
theorem filter_step (T : Nat) : ∀ {l : List GMove}, Srt l → l.filter (fun m => decide (m.To < (T : Int) + 1)) = l.filter (fun m => decide (m.To < (T : Int))) ++ atT T l
  | [], _ => rfl
  | a :: l, h => by
    have h' := List.pairwise_cons.1 h
    have ih := filter_step T h'.2
    rcases Int.lt_trichotomy a.To (T : Int) with h1 | h1 | h1
    · simp only [atT, List.filter_cons]
      rw [if_pos (by simpa using by omega), if_pos (by simpa using h1), if_neg (by simpa using by omega)]
      rw [ih]; rfl
    · have hn : l.filter (fun m => decide (m.To < (T : Int))) = [] := List.filter_eq_nil_iff.2 fun b hb => by have := h'.1 b hb; simp; omega
      simp only [atT, List.filter_cons]
      rw [if_pos (by simpa using by omega), if_neg (by simpa using by omega), if_pos (by simpa using h1), ih, hn, List.nil_append, List.nil_append]
    · have hn : l.filter (fun m => decide (m.To < (T : Int))) = [] := List.filter_eq_nil_iff.2 fun b hb => by have := h'.1 b hb; simp; omega
      simp only [atT, List.filter_cons]
      rw [if_neg (by simpa using by omega), if_neg (by simpa using by omega), if_neg (by simpa using by omega), ih, hn]
theorem rt_eq : ∀ T : Nat, rt f r s n T = (dn f r s n n ++ up f r s n).filter (fun m => decide (m.To < (T : Int)))
  | 0 => by
    refine (List.filter_eq_nil_iff.2 fun m hm => ?_).symm
    rw [List.mem_append] at hm
    have h0 : 0 ≤ m.To := by
      rcases hm with hm | hm
      · obtain ⟨i, _, _, _, rfl, _⟩ := dn_To n (Nat.le_refl n) m hm
        show (0 : Int) ≤ (flp s i : Int)
        omega
      · obtain ⟨i, _, _, rfl, _⟩ := up_To n m hm
        show (0 : Int) ≤ (flp s i : Int)
        omega
    simp only [decide_eq_true_eq]
    omega
  | T + 1 => by
    rw [rt, rt_eq T, ri_eq, ← filter_step T all_srt]
    rfl
theorem flp_lt {i : Nat} (hs : s < 2 ^ n) (hi : i < n) : flp s i < 2 ^ n := by
  rcases bit01 s i with h | h
  · have := flp_down h
    have h0 : 0 < 2 ^ i := Nat.pow_pos (by omega)
    omega
  · rw [flp_up h]
    have e : 2 ^ n = 2 ^ i * (2 * 2 ^ (n - i - 1)) := by
      rw [← Nat.pow_succ', ← Nat.pow_add]; congr 1; omega
    have h0 : 0 < 2 ^ i := Nat.pow_pos (by omega)
    have h1 := Nat.div_add_mod s (2 ^ i)
    have h2 := Nat.mod_lt s h0
    have h3 : s / 2 ^ i < 2 * 2 ^ (n - i - 1) := by
      rw [Nat.div_lt_iff_lt_mul h0, Nat.mul_comm]; omega
    have h4 : s / 2 ^ i + 1 < 2 * 2 ^ (n - i - 1) := by omega
    have h5 : 2 ^ i * (s / 2 ^ i + 2) ≤ 2 ^ i * (2 * 2 ^ (n - i - 1)) := Nat.mul_le_mul_left _ (by omega)
    rw [Nat.mul_add] at h5
    omega
theorem rt_all (hs : s < 2 ^ n) : rt f r s n (2 ^ n) = dn f r s n n ++ up f r s n := by
  rw [rt_eq]
  refine List.filter_eq_self.2 fun m hm => ?_
  rw [List.mem_append] at hm
  simp only [decide_eq_true_eq]
  rcases hm with hm | hm
  · obtain ⟨i, _, h2, _, rfl, _⟩ := dn_To n (Nat.le_refl n) m hm
    have := flp_lt hs h2
    show (flp s i : Int) < _
    omega
  · obtain ⟨i, h2, _, rfl, _⟩ := up_To n m hm
    have := flp_lt hs h2
    show (flp s i : Int) < _
    omega
theorem dn_len : ∀ k, (dn f r s n k).length ≤ k
  | 0 => Nat.le_refl _
  | k + 1 => by have := dn_len k; rw [dn, List.length_append]; split <;> simp <;> omega
theorem up_len : ∀ k, (up f r s k).length ≤ k
  | 0 => Nat.le_refl _
  | k + 1 => by have := up_len k; rw [up, List.length_append]; split <;> simp <;> omega
theorem ri_len {t : Nat} : ∀ k, (ri f r s t k).length ≤ k
  | 0 => Nat.le_refl _
  | k + 1 => by have := ri_len (t := t) k; rw [ri, List.length_append]; split <;> simp <;> omega
theorem rt_len (T : Nat) : (rt f r s n T).length ≤ n + n := by
  rw [rt_eq]
  refine Nat.le_trans (List.length_filter_le ..) ?_
  have := dn_len (f := f) (r := r) (s := s) (n := n) n
  have := up_len (f := f) (r := r) (s := s) n
  rw [List.length_append]; omega
theorem mvs_len : ∀ S, (mvs f r n S).length ≤ S * (n + n)
  | 0 => by simp [mvs]
  | S + 1 => by
    have := mvs_len S
    have := dn_len (f := f) (r := r) (s := S) (n := n) n
    have := up_len (f := f) (r := r) (s := S) n
    rw [mvs, List.length_append, List.length_append, Nat.add_mul]; omega
end
end Go.Gg
namespace Go.Gg

set_option maxRecDepth 10000 in
theorem bits_tab : ∀ s : Nat, s < 256 → ∀ i : Nat, i < 8 →
    (s / 2 ^ i % 2 = 1 → bits .andNot .i64 (s : Int) (1 * 2 ^ i) = ((s - 2 ^ i : Nat) : Int)) ∧ (s / 2 ^ i % 2 = 0 → bits .or .i64 (s : Int) (1 * 2 ^ i) = ((s + 2 ^ i : Nat) : Int)) ∧ bits .xor .i64 (s : Int) (1 * 2 ^ i) = ((flp s i : Nat) : Int) := by decide +kernel
/-- The chain, and the error's number. -/
def chainM (f r : List GRat) (φ : GFormula) : GChain × Int :=
  if listsE f r ≠ 0 then (⟨0, 0, [], []⟩, listsE f r) else if chkM φ ≠ 0 then (⟨0, 0, [], []⟩, chkM φ) else if φ.Vars ≠ (f.length : Int) then (⟨0, 0, [], []⟩, 11)
  else (⟨((2 ^ f.length : Nat) : Int), 0, mvs f r f.length (2 ^ f.length), (List.range (2 ^ f.length)).map (FV φ)⟩, 0)
theorem rateB_ok {x : GRat} (h : rateB x = true) : okR x = true := by
  unfold rateB at h
  simp only [Bool.and_eq_true] at h
  exact h.1
theorem chk2_ok {φ : GFormula} {n s : Nat} (hc : chkM φ = 0) (hv : φ.Vars = (n : Int)) (hs : s < 2 ^ n) : chk2 φ (s : Int) = 0 := by
  unfold chk2
  rw [if_neg (fun hh => hh hc), if_neg]
  have e : φ.Vars.toNat = n := by omega
  rw [e]
  have e2 : ((2 ^ n : Nat) : Int) = (2 ^ n : Int) := by simp
  rw [← e2]
  omega
theorem mvs_small {f r : List GRat} {n s : Nat} (h8 : n ≤ 8) (hs : s ≤ 256) : (mvs f r n s).length ≤ 4096 := by
  have h1 := mvs_len (f := f) (r := r) (n := n) s
  have h2 := Nat.mul_le_mul hs (show n + n ≤ 16 by omega)
  omega
theorem good_up {f r : List GRat} {s i : Nat} (hb : s / 2 ^ i % 2 = 0) : (good f r s i = true) = (0 < sgnR (valR (at' f (i : Int)))) := by
  unfold good rateAt
  rw [if_neg (by omega)]
  simp
theorem good_dn {f r : List GRat} {s i : Nat} (hb : s / 2 ^ i % 2 = 1) : (good f r s i = true) = (0 < sgnR (valR (at' r (i : Int)))) := by
  unfold good rateAt
  rw [if_pos hb]
  simp
theorem eta_rat (a : GRat) : (⟨a.Neg, a.Num, a.Den⟩ : GRat) = a := rfl
set_option maxHeartbeats 1000000 in
theorem product_Chain_s {f r : List GRat} {φ : GFormula} {k : Nat} {Q : GChain → Option Int → Prop} (hk : k ≤ 1000000000) (hf : Frs k f) (hr : Frs k r) (ht : rng φ.Top) (h : Q (chainM f r φ).1 (errO (chainM f r φ).2)) : product_Chain_W f r φ Q := by
  refine product_check_s hf hr ?_
  unfold chainM at h
  rw [isSome_errO]
  refine condT (fun hc => ?_) (fun hc => ?_)
  · rw [if_pos hc] at h; exact h
  rw [if_neg hc] at h
  obtain ⟨hl, h0, h8, hall⟩ := lists_zero (Classical.not_not.1 hc)
  refine formula_Check_s ht ?_
  rw [isSome_errO]
  refine condT (fun hc2 => ?_) (fun hc2 => ?_)
  · rw [if_pos hc2] at h; exact h
  rw [if_neg hc2] at h
  refine condN (fun hv => ?_) (fun hv => ?_)
  · rw [if_pos hv] at h; exact h
  rw [if_neg (fun hh => hh hv)] at h
  obtain ⟨e, hrg⟩ := pow_range h8
  have hp := pow_le_256 h8
  rw [e] at hrg ⊢
  refine ⟨⟨⟨by omega, by omega⟩, hrg⟩, ⟨⟨by omega, by omega⟩, hrg⟩, ?_⟩
  refine loopUp (n := 2 ^ f.length) (fun s => ((s : Int), (List.range s).map (FV φ), mvs f r f.length s)) (fun y => y.1) 0 (fun s => by dsimp only; omega) rfl ?_ ?_
  · intro s next hs hn
    have h256 : s < 256 := Nat.lt_of_lt_of_le hs hp
    have hml := mvs_small (f := f) (r := r) h8 (show s ≤ 256 by omega)
    refine condT (fun hc3 => ?_) (fun hc3 => absurd (Int.ofNat_lt.2 hs) hc3)
    refine formula_Value_s ht (fun hh => absurd (chk2_ok (Classical.not_not.1 hc2) hv hs) hh) (fun _ => condB (fun hh => by cases hh) (fun _ => ⟨?_, by unfold rng; omega, ?_⟩))
    · rw [List.length_append, List.length_map, List.length_range]; simp; omega
    rw [Int.toNat_natCast]
    refine loopUp (n := f.length) (fun k => ((f.length : Int) - 1 - k, mvs f r f.length s ++ dn f r s f.length k)) (fun y => - y.1) (1 - f.length) (fun k => by dsimp only; omega) (by simp [dn]) ?_ ?_
    · intro k next2 hk2 hn2
      obtain ⟨i, hi⟩ : ∃ i : Nat, (f.length : Int) - 1 - k = i := ⟨f.length - 1 - k, by omega⟩
      have hik : f.length - 1 - k = i := by omega
      have hin : i < f.length := by omega
      have hdl := dn_len (f := f) (r := r) (s := s) (n := f.length) k
      have e3 : (f.length : Int) - 1 - ((k + 1 : Nat) : Int) = (i : Int) - 1 := by omega
      rw [dn, hik, ← List.append_assoc, e3] at hn2
      rw [hi]
      refine condT (fun _ => ?_) (fun hh => absurd (show (0 : Int) ≤ (i : Int) by omega) hh)
      refine ⟨fun y => y = decide (s / 2 ^ i % 2 = 1 ∧ good f r s i = true), ⟨⟨by omega, by omega⟩, ?_⟩, ?_⟩
      · rw [bit_eq h256]
        refine condE (fun hb => ⟨⟨by omega, by omega⟩, rational_Sign_s (hr i (by omega)).1 ?_⟩) (fun hb => ?_)
        · have hb1 : s / 2 ^ i % 2 = 1 := Int.ofNat.inj hb
          refine decide_eq_decide.2 ?_
          rw [good_dn hb1]
          exact ⟨fun hh => ⟨hb1, hh⟩, fun hh => hh.2⟩
        · exact (decide_eq_false (fun hh => hb (by rw [hh.1]; rfl))).symm
      · rintro _ rfl
        refine condT (fun hc4 => ?_) (fun hc4 => ?_)
        · rw [if_pos hc4] at hn2
          have hrx : rateAt f r s i = at' r (i : Int) := if_pos hc4.1
          have hok := okR_eq (rateB_ok (hall i hin).1.2)
          refine ⟨⟨⟨by omega, by omega⟩, (pow_range (n := i) (by omega)).2⟩, ⟨by omega, by omega⟩, add_pd (.self (hr i (by omega)).1 (hr i (by omega)).2) (.zero (k := 1) (by omega) (by decide)) (by simp only [cap]; omega) fun _ => ⟨?_, by unfold rng; omega, ?_⟩⟩
          · rw [List.length_append, List.length_append]; simp; omega
          · rw [eta_rat, Rat.add_zero, ← hok, Int.toNat_natCast, (bits_tab s h256 i (by omega)).1 hc4.1]
            rw [itm, hrx, flp, if_pos hc4.1] at hn2
            exact hn2
        · rw [if_neg hc4, List.append_nil] at hn2
          exact ⟨by unfold rng; omega, hn2⟩
    · intro next2
      have hdl := dn_len (f := f) (r := r) (s := s) (n := f.length) f.length
      refine condT (fun hh => absurd hh (by omega)) (fun _ => ?_)
      refine loopUp (n := f.length) (fun k => ((k : Int), (mvs f r f.length s ++ dn f r s f.length f.length) ++ up f r s k)) (fun y => y.1) 0 (fun k => by dsimp only; omega) (by simp [up]) ?_ ?_
      · intro i next3 hin hn3
        have hul := up_len (f := f) (r := r) (s := s) i
        rw [up, ← List.append_assoc] at hn3
        refine condT (fun _ => ?_) (fun hh => absurd (show (i : Int) < (f.length : Int) by omega) hh)
        refine ⟨fun y => y = decide (s / 2 ^ i % 2 = 0 ∧ good f r s i = true), ⟨⟨by omega, by omega⟩, ?_⟩, ?_⟩
        · rw [bit_eq h256]
          refine condE (fun hb => ⟨⟨by omega, by omega⟩, rational_Sign_s (hf i (by omega)).1 ?_⟩) (fun hb => ?_)
          · have hb1 : s / 2 ^ i % 2 = 0 := Int.ofNat.inj hb
            refine decide_eq_decide.2 ?_
            rw [good_up hb1]
            exact ⟨fun hh => ⟨hb1, hh⟩, fun hh => hh.2⟩
          · exact (decide_eq_false (fun hh => hb (by rw [hh.1]; rfl))).symm
        · rintro _ rfl
          refine condT (fun hc4 => ?_) (fun hc4 => ?_)
          · rw [if_pos hc4] at hn3
            have hrx : rateAt f r s i = at' f (i : Int) := if_neg (by omega)
            have hok := okR_eq (rateB_ok (hall i hin).1.1)
            refine ⟨⟨⟨by omega, by omega⟩, (pow_range (n := i) (by omega)).2⟩, ⟨by omega, by omega⟩, add_pd (.self (hf i (by omega)).1 (hf i (by omega)).2) (.zero (k := 1) (by omega) (by decide)) (by simp only [cap]; omega) fun _ => ⟨?_, by unfold rng; omega, ?_⟩⟩
            · rw [List.length_append, List.length_append, List.length_append]; simp; omega
            · rw [eta_rat, Rat.add_zero, ← hok, Int.toNat_natCast, (bits_tab s h256 i (by omega)).2.1 hc4.1]
              rw [itm, hrx, flp_up hc4.1] at hn3
              exact hn3
          · rw [if_neg hc4, List.append_nil] at hn3
            exact ⟨by unfold rng; omega, hn3⟩
      · intro next3
        refine condT (fun hh => absurd hh (by omega)) (fun _ => ⟨by unfold rng; omega, ?_⟩)
        rw [List.range_succ, List.map_append, mvs, ← List.append_assoc] at hn
        exact hn
  · intro next
    exact condT (fun hh => absurd hh (by omega)) (fun _ => h)
set_option maxHeartbeats 1000000 in
theorem ref50_Chain_s {f r : List GRat} {φ : GFormula} {k : Nat} {Q : GChain → Int → Prop} (hk : 3 * k + 2 ≤ 35184372088000) (hf : Frs k f) (hr : Frs k r) (ht : rng φ.Top) (h : Q (chainM f r φ).1 (chainM f r φ).2) : ref50_Chain_W f r φ Q := by
  refine ref50_Lists_s hk hf hr ?_
  unfold chainM at h
  refine condN (fun hc => ?_) (fun hc => ?_)
  · rw [if_pos hc] at h; exact h
  rw [if_neg (fun hh => hh hc)] at h
  obtain ⟨hl, h0, h8, hall⟩ := lists_zero hc
  refine ref08_Check_s ht ?_
  refine condN (fun hc2 => ?_) (fun hc2 => ?_)
  · rw [if_pos hc2] at h; exact h
  rw [if_neg (fun hh => hh hc2)] at h
  have g := chk_ok.1 hc2
  refine condN (fun hv => ?_) (fun hv => ?_)
  · rw [if_pos hv] at h; exact h
  rw [if_neg (fun hh => hh hv)] at h
  obtain ⟨e, hrg⟩ := pow_range h8
  have hp := pow_le_256 h8
  rw [e] at hrg ⊢
  refine ⟨⟨⟨by omega, by omega⟩, hrg⟩, ?_⟩
  refine loopUp (n := 2 ^ f.length) (fun s => ((s : Int), (List.range s).map (FV φ), mvs f r f.length s)) (fun y => y.1) 0 (fun s => by dsimp only; omega) rfl ?_ ?_
  · intro s next hs hn
    have h256 : s < 256 := Nat.lt_of_lt_of_le hs hp
    have hml := mvs_small (f := f) (r := r) h8 (show s ≤ 256 by omega)
    refine condT (fun hc3 => ⟨_, ref08_Value_s g (by omega) rfl, ?_, ?_⟩) (fun hc3 => absurd (Int.ofNat_lt.2 hs) hc3)
    · rw [List.length_append, List.length_map, List.length_range]; simp; omega
    refine loopUp (n := 2 ^ f.length) (fun t => ((t : Int), mvs f r f.length s ++ rt f r s f.length t)) (fun y => y.1) 0 (fun t => by dsimp only; omega) (by simp [rt]) ?_ ?_
    · intro t next2 hts hn2
      have htl := rt_len (f := f) (r := r) (s := s) (n := f.length) t
      refine condT (fun _ => ?_) (fun hh => absurd (Int.ofNat_lt.2 hts) hh)
      refine loopUp (n := f.length) (fun i => ((i : Int), (mvs f r f.length s ++ rt f r s f.length t) ++ ri f r s t i)) (fun y => y.1) 0 (fun i => by dsimp only; omega) (by simp [ri]) ?_ ?_
      · intro i next3 hin hn3
        have hil := ri_len (f := f) (r := r) (s := s) (t := t) i
        rw [ri, ← List.append_assoc] at hn3
        refine condT (fun _ => ⟨⟨by omega, by omega⟩, ?_⟩) (fun hh => absurd (show (i : Int) < (f.length : Int) by omega) hh)
        refine ⟨fun y => y = rateAt f r s i, ⟨⟨by omega, by omega⟩, ?_⟩, ?_⟩
        · rw [bit_eq h256]
          refine condE (fun hb => ⟨⟨by omega, by omega⟩, ?_⟩) (fun hb => ?_)
          · exact (if_pos (Int.ofNat.inj hb)).symm
          · exact (if_neg (fun hh => hb (by rw [hh]; rfl))).symm
        · rintro _ rfl
          have hxf : Fr (rateAt f r s i) := by
            unfold rateAt
            split
            · exact (hr i (by omega)).1
            · exact (hf i hin).1
          refine ⟨fun y => y = decide (t = flp s i ∧ good f r s i = true), ⟨⟨⟨by omega, by omega⟩, (pow_range (n := i) (by omega)).2⟩, ?_⟩, ?_⟩
          · rw [Int.toNat_natCast, (bits_tab s h256 i (by omega)).2.2]
            refine condE (fun hb => ref02_Sign_s hxf ?_) (fun hb => ?_)
            · refine decide_eq_decide.2 ⟨fun hh => ⟨Int.ofNat.inj hb, decide_eq_true hh⟩, fun hh => of_decide_eq_true hh.2⟩
            · exact (decide_eq_false (fun hh => hb (by rw [hh.1]))).symm
          · rintro _ rfl
            refine condT (fun hc4 => ?_) (fun hc4 => ?_)
            · rw [if_pos hc4, itm, ← hc4.1] at hn3
              refine ⟨?_, by unfold rng; omega, hn3⟩
              rw [List.length_append, List.length_append, List.length_append]; simp; omega
            · rw [if_neg hc4, List.append_nil] at hn3
              exact ⟨by unfold rng; omega, hn3⟩
      · intro next3
        refine condT (fun hh => absurd hh (by omega)) (fun _ => ⟨by unfold rng; omega, ?_⟩)
        rw [rt, ← List.append_assoc] at hn2
        exact hn2
    · intro next2
      refine condT (fun hh => absurd hh (by omega)) (fun _ => ⟨by unfold rng; omega, ?_⟩)
      rw [rt_all hs]
      rw [List.range_succ, List.map_append, mvs] at hn
      exact hn
  · intro next
    exact condT (fun hh => absurd hh (by omega)) (fun _ => h)
end Go.Gg
