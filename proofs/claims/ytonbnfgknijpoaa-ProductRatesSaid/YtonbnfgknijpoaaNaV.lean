/- Plain arithmetic of lists of 32-bit words. Conditions: none. -/
import Derived.Test.YtonbnfgknijpoaaGgS
namespace Go.Gg

def Words (l : List Int) : Prop := ∀ i, 0 ≤ l.getD i 0 ∧ l.getD i 0 < 4294967296
def pv (l : List Int) : Nat → Int
  | 0 => 0
  | i + 1 => pv l i + l.getD i 0 * 4294967296 ^ i
def val (l : List Int) : Nat := (pv l l.length).toNat
def lim (n : Nat) : List Int := if h : n = 0 then [] else (n % 4294967296 : Nat) :: lim (n / 4294967296)
termination_by n
decreasing_by exact Nat.div_lt_self (by omega) (by omega)
abbrev nat (n : Nat) : AV := ints .u32 (lim n)

theorem getD_ge {l : List Int} {i : Nat} (h : l.length ≤ i) : l.getD i 0 = 0 := by simp [List.getD_eq_getElem?_getD, List.getElem?_eq_none h]
theorem Words.take {l : List Int} (h : Words l) (j : Nat) : Words (l.take j) := fun i => by
  have := h i
  rw [List.getD_eq_getElem?_getD, List.getElem?_take] at *
  split <;> simp_all
theorem Words.set {l : List Int} (h : Words l) (j : Nat) {x : Int} (h0 : 0 ≤ x) (h1 : x < 4294967296) : Words (l.set j x) := fun i => by
  have := h i
  rw [List.getD_eq_getElem?_getD, List.getElem?_set] at *
  split
  · split <;> simp_all
  · exact this
theorem Words.nil : Words [] := fun i => by simp
theorem Words.rep (n : Nat) : Words (List.replicate n 0) := fun i => by
  rw [List.getD_eq_getElem?_getD, List.getElem?_replicate]
  split <;> simp
theorem Words.cons {l : List Int} (h : Words l) {x : Int} (h0 : 0 ≤ x) (h1 : x < 4294967296) : Words (x :: l) := fun i => by
  cases i with
  | zero => exact ⟨h0, h1⟩
  | succ i => exact h i
theorem Words.tail {l : List Int} {x : Int} (h : Words (x :: l)) : Words l := fun i => h (i + 1)
theorem getD_append_l {l m : List Int} {i : Nat} (h : i < l.length) : (l ++ m).getD i 0 = l.getD i 0 := by
  rw [List.getD_eq_getElem?_getD, List.getD_eq_getElem?_getD, List.getElem?_append_left h]
theorem getD_append_r {l m : List Int} {i : Nat} (h : l.length ≤ i) : (l ++ m).getD i 0 = m.getD (i - l.length) 0 := by
  rw [List.getD_eq_getElem?_getD, List.getD_eq_getElem?_getD, List.getElem?_append_right h]
theorem Words.append {l m : List Int} (h : Words l) (h' : Words m) : Words (l ++ m) := fun i => by
  rcases Nat.lt_or_ge i l.length with hi | hi
  · rw [getD_append_l hi]; exact h i
  · rw [getD_append_r hi]; exact h' _
theorem Words.drop {l : List Int} (h : Words l) (j : Nat) : Words (l.drop j) := fun i => by
  have := h (j + i)
  rw [List.getD_eq_getElem?_getD, List.getElem?_drop]
  rwa [List.getD_eq_getElem?_getD] at this

theorem pv_congr {l m : List Int} : ∀ (i : Nat), (∀ k, k < i → l.getD k 0 = m.getD k 0) → pv l i = pv m i
  | 0, _ => rfl
  | i + 1, h => by rw [pv, pv, pv_congr i (fun k hk => h k (by omega)), h i (by omega)]
theorem pv_bound {l : List Int} (h : Words l) : ∀ i, 0 ≤ pv l i ∧ pv l i < 4294967296 ^ i
  | 0 => by simp [pv]
  | i + 1 => by
    obtain ⟨h1, h2⟩ := pv_bound h i
    obtain ⟨h3, h4⟩ := h i
    rw [pv, Int.pow_succ]
    have hp : (0 : Int) < 4294967296 ^ i := by omega
    have h5 : l.getD i 0 * 4294967296 ^ i ≤ 4294967295 * 4294967296 ^ i := Int.mul_le_mul_of_nonneg_right (by omega) (by omega)
    have h6 : 0 ≤ l.getD i 0 * 4294967296 ^ i := Int.mul_nonneg h3 (by omega)
    generalize l.getD i 0 * 4294967296 ^ i = q at *
    generalize (4294967296 : Int) ^ i = p at *
    omega
theorem pv_ge {l : List Int} : ∀ i, l.length ≤ i → pv l i = pv l l.length
  | 0, h => by have : l.length = 0 := by omega
               rw [this]
  | i + 1, h => by
    rcases Nat.lt_or_ge i l.length with h' | h'
    · have : i + 1 = l.length := by omega
      rw [this]
    · rw [pv, pv_ge i h', getD_ge h']; simp
theorem val_pv {l : List Int} (h : Words l) : (val l : Int) = pv l l.length := by
  unfold val
  have := (pv_bound h l.length).1
  omega
theorem val_pv' {l : List Int} (h : Words l) {i : Nat} (hi : l.length ≤ i) : (val l : Int) = pv l i := by rw [val_pv h, pv_ge i hi]
theorem val_nil : val [] = 0 := rfl
theorem pv_cons (x : Int) (l : List Int) : ∀ i, pv (x :: l) (i + 1) = x + 4294967296 * pv l i
  | 0 => by simp [pv]
  | i + 1 => by
    rw [pv, pv_cons x l i, pv]
    have : (x :: l).getD (i + 1) 0 = l.getD i 0 := by simp
    rw [this, Int.pow_succ]
    generalize l.getD i 0 = a
    generalize (4294967296 : Int) ^ i = p
    rw [Int.mul_add, Int.mul_comm p 4294967296, ← Int.mul_assoc, ← Int.mul_assoc, Int.mul_comm a 4294967296]
    omega
theorem val_cons {x : Int} {l : List Int} (h : Words (x :: l)) : val (x :: l) = x.toNat + 4294967296 * val l := by
  have h1 := val_pv h
  have h2 := val_pv h.tail
  have h3 := h 0
  have : (x :: l).getD 0 0 = x := by simp
  rw [this] at h3
  rw [List.length_cons, pv_cons] at h1
  omega
theorem pv_set_lt {l : List Int} {j i : Nat} {x : Int} (h : i ≤ j) : pv (l.set j x) i = pv l i := pv_congr i fun k hk => by
  rw [List.getD_eq_getElem?_getD, List.getD_eq_getElem?_getD, List.getElem?_set_ne (by omega)]
theorem getD_set_self {l : List Int} {j : Nat} {x : Int} (h : j < l.length) : (l.set j x).getD j 0 = x := by
  rw [List.getD_eq_getElem?_getD, List.getElem?_set_self h]; rfl
theorem getD_set_of_ne {l : List Int} {i j : Nat} {x : Int} (h : j ≠ i) : (l.set j x).getD i 0 = l.getD i 0 := by
  rw [List.getD_eq_getElem?_getD, List.getD_eq_getElem?_getD, List.getElem?_set_ne h]
theorem pv_set {l : List Int} {j : Nat} {x : Int} (h : j < l.length) : pv (l.set j x) (j + 1) = pv l j + x * 4294967296 ^ j := by
  rw [pv, pv_set_lt (Nat.le_refl _), getD_set_self h]
theorem pv_take {l : List Int} {i j : Nat} (h : i ≤ j) : pv (l.take j) i = pv l i := pv_congr i fun k hk => by
  rw [List.getD_eq_getElem?_getD, List.getD_eq_getElem?_getD, List.getElem?_take_of_lt (by omega)]
theorem pv_append {l m : List Int} {i : Nat} (h : i ≤ l.length) : pv (l ++ m) i = pv l i := pv_congr i fun k hk => getD_append_l (by omega)
theorem pv_zero {l : List Int} {j : Nat} : ∀ i, j ≤ i → (∀ k, j ≤ k → k < i → l.getD k 0 = 0) → pv l i = pv l j
  | 0, h, _ => by have : j = 0 := by omega
                  rw [this]
  | i + 1, h, hz => by
    by_cases hj : j = i + 1
    · rw [hj]
    · rw [pv, pv_zero i (by omega) (fun k h1 h2 => hz k h1 (by omega)), hz i (by omega) (by omega)]; simp
theorem pv_rep (n : Nat) : ∀ i, pv (List.replicate n 0) i = 0
  | 0 => rfl
  | i + 1 => by
    rw [pv, pv_rep n i, List.getD_eq_getElem?_getD, List.getElem?_replicate]
    split <;> simp
/-- Comparison from the top. -/
theorem pv_lt {l m : List Int} (hl : Words l) (hm : Words m) {i n : Nat} (hi : i < n) (h : l.getD i 0 < m.getD i 0) (he : ∀ k, i < k → k < n → l.getD k 0 = m.getD k 0) : pv l n < pv m n := by
  induction n with
  | zero => omega
  | succ n ih =>
    rw [pv, pv]
    by_cases hin : i = n
    · subst hin
      obtain ⟨a1, a2⟩ := pv_bound hl i
      obtain ⟨b1, b2⟩ := pv_bound hm i
      have hp : (0 : Int) < 4294967296 ^ i := by omega
      have h5 : (l.getD i 0 + 1) * 4294967296 ^ i ≤ m.getD i 0 * 4294967296 ^ i := Int.mul_le_mul_of_nonneg_right (by omega) (by omega)
      rw [Int.add_mul] at h5
      omega
    · have h1 := ih (by omega) (fun k h1 h2 => he k h1 (by omega))
      rw [he n (by omega) (by omega)]
      omega

theorem lim_zero : lim 0 = [] := by rw [lim]; simp
theorem lim_pos {n : Nat} (h : 0 < n) : lim n = ((n % 4294967296 : Nat) : Int) :: lim (n / 4294967296) := by rw [lim, dif_neg (by omega)]
theorem lim_words (n : Nat) : Words (lim n) := by
  induction n using Nat.strongRecOn with
  | _ n ih =>
    by_cases h : n = 0
    · subst h; rw [lim_zero]; exact Words.nil
    · rw [lim_pos (by omega)]
      exact (ih _ (Nat.div_lt_self (by omega) (by omega))).cons (by omega) (by omega)
theorem val_lim (n : Nat) : val (lim n) = n := by
  induction n using Nat.strongRecOn with
  | _ n ih =>
    by_cases h : n = 0
    · subst h; rw [lim_zero]; rfl
    · have hw := lim_words n
      rw [lim_pos (by omega)] at hw ⊢
      rw [val_cons hw, ih _ (Nat.div_lt_self (by omega) (by omega))]
      omega
theorem lim_val {l : List Int} (hw : Words l) (hlast : 0 < l.length → l.getD (l.length - 1) 0 ≠ 0) : lim (val l) = l := by
  induction l with
  | nil => exact lim_zero
  | cons x l ih =>
    have hx := hw 0
    have e0 : (x :: l).getD 0 0 = x := by simp
    rw [e0] at hx
    rw [val_cons hw]
    have hpos : 0 < x.toNat + 4294967296 * val l := by
      cases l with
      | nil => have := hlast (by simp); simp at this; omega
      | cons y l =>
        have h1 := ih hw.tail (fun _ => by have := hlast (by simp); simpa using this)
        have : val (y :: l) ≠ 0 := fun h => by rw [h, lim_zero] at h1; cases h1
        omega
    rw [lim_pos hpos]
    have h1 : (x.toNat + 4294967296 * val l) % 4294967296 = x.toNat := by omega
    have h2 : (x.toNat + 4294967296 * val l) / 4294967296 = val l := by omega
    rw [h1, h2, ih hw.tail (fun hp => by
      have := hlast (by simp)
      cases l with
      | nil => simp at hp
      | cons y l => simpa using this)]
    congr 1
    omega
theorem lim_take {l : List Int} (hw : Words l) {j : Nat} (hj : j ≤ l.length) (hz : ∀ i, j ≤ i → i < l.length → l.getD i 0 = 0) (hlast : 0 < j → l.getD (j - 1) 0 ≠ 0) : l.take j = lim (val l) := by
  have h1 : lim (val (l.take j)) = l.take j := lim_val (hw.take j) (fun hp => by
    have hlen : (l.take j).length = j := by simp; omega
    rw [hlen] at hp ⊢
    have := hlast hp
    rwa [List.getD_eq_getElem?_getD, List.getElem?_take_of_lt (by omega), ← List.getD_eq_getElem?_getD])
  have h2 : val (l.take j) = val l := by
    have a := val_pv (hw.take j)
    have b := val_pv hw
    have hlen : (l.take j).length = j := by simp; omega
    rw [hlen, pv_take (Nat.le_refl _)] at a
    rw [pv_zero l.length hj hz] at b
    omega
  rw [← h2, h1]
theorem lim_len_le {l : List Int} (hw : Words l) : (lim (val l)).length ≤ l.length := by
  -- the trimmed list is a prefix
  have key : ∀ n, n ≤ l.length → (∀ i, n ≤ i → i < l.length → l.getD i 0 = 0) → (lim (val l)).length ≤ n := by
    intro n
    induction n with
    | zero => intro h1 h2; rw [← lim_take hw h1 h2 (fun h => by omega)]; simp
    | succ n ih =>
      intro h1 h2
      by_cases h : l.getD n 0 = 0
      · have := ih (by omega) (fun i a b => by
          by_cases e : i = n
          · subst e; exact h
          · exact h2 i (by omega) b)
        omega
      · rw [← lim_take hw h1 h2 (fun _ => h)]; simp; omega
  exact key l.length (Nat.le_refl _) (fun i h1 h2 => by omega)
theorem lim_len_mono {m n : Nat} (h : m ≤ n) : (lim m).length ≤ (lim n).length := by
  induction n using Nat.strongRecOn generalizing m with
  | _ n ih =>
    by_cases h0 : m = 0
    · subst h0; rw [lim_zero]; simp
    · rw [lim_pos (by omega), lim_pos (by omega : 0 < n)]
      have := ih (n / 4294967296) (Nat.div_lt_self (by omega) (by omega)) (Nat.div_le_div_right (c := 4294967296) h)
      simp; omega
theorem val_lt_pow {l : List Int} (hw : Words l) : val l < 4294967296 ^ l.length := by
  have h1 := val_pv hw
  have h2 := (pv_bound hw l.length).2
  have : ((4294967296 ^ l.length : Nat) : Int) = (4294967296 : Int) ^ l.length := by simp
  omega
theorem lim_len_lt {n k : Nat} (h : n < 4294967296 ^ k) : (lim n).length ≤ k := by
  induction n using Nat.strongRecOn generalizing k with
  | _ n ih =>
    by_cases h0 : n = 0
    · subst h0; rw [lim_zero]; simp
    · rw [lim_pos (by omega)]
      cases k with
      | zero => simp at h; omega
      | succ k =>
        have := ih (n / 4294967296) (Nat.div_lt_self (by omega) (by omega)) (k := k) (by
          rw [Nat.pow_succ] at h
          rw [Nat.div_lt_iff_lt_mul (by omega)]
          exact h)
        simp; omega
/-- -1, 0, 1. -/
def cmpv (m n : Nat) : Int := if m < n then -1 else if m = n then 0 else 1
theorem cmpv_lt {m n : Nat} : cmpv m n < 0 ↔ m < n := by
  unfold cmpv
  by_cases h : m < n
  · simp [h]
  · rw [if_neg h]; split <;> omega
theorem cmpv_eq {m n : Nat} : cmpv m n = 0 ↔ m = n := by
  unfold cmpv
  by_cases h : m < n
  · rw [if_pos h]; omega
  · rw [if_neg h]; split <;> omega
theorem split_w (c p : Int) : (c % 4294967296) * p + (c / 4294967296) * (p * 4294967296) = c * p := by
  have h : c = 4294967296 * (c / 4294967296) + c % 4294967296 := by omega
  generalize c / 4294967296 = a at *
  generalize c % 4294967296 = b at *
  subst h
  rw [Int.add_mul, Int.mul_comm p 4294967296, ← Int.mul_assoc, Int.mul_comm a 4294967296, Int.add_comm]
theorem carry_zero {x y o c p : Int} (h : o + c * (p * 4294967296) = x + y) (ho : 0 ≤ o) (hx : x < p) (hy : y < p) (h0 : 0 ≤ c) (h1 : c ≤ 1) (hp : 0 < p) : c = 0 := by
  rcases (by omega : c = 0 ∨ c = 1) with rfl | rfl
  · rfl
  · omega
theorem pv_set_full {l : List Int} {j : Nat} {x : Int} (hj : j < l.length) : ∀ i, j < i → pv (l.set j x) i = pv l i + (x - l.getD j 0) * 4294967296 ^ j
  | 0, h => by omega
  | i + 1, h => by
    rw [pv, pv]
    by_cases hij : j = i
    · subst hij
      rw [pv_set_lt (Nat.le_refl _), getD_set_self hj, Int.sub_mul]
      omega
    · rw [pv_set_full hj i (by omega), getD_set_of_ne hij]
      omega
theorem pv_ge_low {l : List Int} (hw : Words l) {i : Nat} : ∀ {j : Nat}, i ≤ j → pv l i ≤ pv l j
  | 0, h => by have : i = 0 := by omega
               subst this; exact Int.le_refl _
  | j + 1, h => by
    by_cases hij : i = j + 1
    · subst hij; exact Int.le_refl _
    · have h1 := pv_ge_low hw (show i ≤ j by omega)
      have h2 : 0 ≤ l.getD j 0 * 4294967296 ^ j := Int.mul_nonneg (hw j).1 (by have : (0:Int) < 4294967296 ^ j := Int.pow_pos (by omega); omega)
      rw [pv]
      omega
/-- One step of a difference. -/
theorem sub_step (x y b : Int) (hx : 0 ≤ x ∧ x < 4294967296) (hy : 0 ≤ y ∧ y < 4294967296) (hb : 0 ≤ b ∧ b ≤ 1) :
    (IntKind.u64.wrap (IntKind.u64.wrap (x - y) - b) % 4294967296 - 4294967296 * (IntKind.u64.wrap (IntKind.u64.wrap (x - y) - b) / 9223372036854775808) = x - y - b) ∧
      0 ≤ IntKind.u64.wrap (IntKind.u64.wrap (x - y) - b) / 9223372036854775808 ∧ IntKind.u64.wrap (IntKind.u64.wrap (x - y) - b) / 9223372036854775808 ≤ 1 := by
  simp only [wrap_u64]
  omega
theorem mul_le_w {x y : Int} (hx : 0 ≤ x ∧ x < 4294967296) (hy : 0 ≤ y ∧ y < 4294967296) : 0 ≤ x * y ∧ x * y ≤ 18446744065119617025 :=
  ⟨Int.mul_nonneg hx.1 hy.1, Int.le_trans (Int.mul_le_mul (by omega : x ≤ 4294967295) (by omega : y ≤ 4294967295) hy.1 (by omega)) (by omega)⟩
theorem pow_pos_w (i : Nat) : (0 : Int) < 4294967296 ^ i := Int.pow_pos (by omega)
/-- A number below 2^(32 n) has no words from n on. -/
theorem pv_high {l : List Int} (hw : Words l) {n : Nat} : ∀ {m : Nat}, n ≤ m → pv l m < 4294967296 ^ n → pv l m = pv l n
  | 0, h, _ => by have : n = 0 := by omega
                  subst this; rfl
  | m + 1, h, hlt => by
    by_cases hn : n = m + 1
    · subst hn; rfl
    · have h1 : pv l m ≤ pv l (m + 1) := pv_ge_low hw (by omega)
      have h2 := pv_high hw (show n ≤ m by omega) (by omega)
      have h3 : l.getD m 0 = 0 := by
        rcases Int.lt_or_le 0 (l.getD m 0) with hp | hp
        · exfalso
          have h4 : (4294967296 : Int) ^ n ≤ 4294967296 ^ m := by
            have : (4294967296 : Int) ^ m = 4294967296 ^ n * 4294967296 ^ (m - n) := by rw [← Int.pow_add]; congr 1; omega
            rw [this]
            have a1 : (0 : Int) < 4294967296 ^ n := Int.pow_pos (by omega)
            have a2 : (0 : Int) < 4294967296 ^ (m - n) := Int.pow_pos (by omega)
            have a3 : (4294967296 : Int) ^ n * 1 ≤ 4294967296 ^ n * 4294967296 ^ (m - n) := Int.mul_le_mul_of_nonneg_left (by omega) (by omega)
            omega
          have h5 : 1 * (4294967296 : Int) ^ m ≤ l.getD m 0 * 4294967296 ^ m := Int.mul_le_mul_of_nonneg_right (by omega) (by have : (0 : Int) < 4294967296 ^ m := Int.pow_pos (by omega); omega)
          have h6 := (pv_bound hw m).1
          rw [pv] at hlt
          omega
        · have := (hw m).1; omega
      rw [pv, h3, h2]; omega
end Go.Gg
