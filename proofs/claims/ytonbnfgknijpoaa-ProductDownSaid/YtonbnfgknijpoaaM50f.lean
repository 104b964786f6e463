/- Flows in a chain of components: as much flows into each state as out of it. Conditions: none. -/
import Derived.Test.YtonbnfgknijpoaaM50e
namespace Go.Gg

def lsum (g : GMove → Rat) : List GMove → Rat
  | [] => 0
  | a :: l => g a + lsum g l
theorem lsum_app {g : GMove → Rat} : ∀ {l m : List GMove}, lsum g (l ++ m) = lsum g l + lsum g m
  | [], m => by rw [List.nil_append, lsum, Rat.zero_add]
  | a :: l, m => by rw [List.cons_append, lsum, lsum, lsum_app, Rat.add_assoc]
theorem lsum_take {g : GMove → Rat} {l : List GMove} {j : Nat} (h : j < l.length) : lsum g (l.take (j + 1)) = lsum g (l.take j) + g (at' l (j : Int)) := by
  rw [List.take_add_one, lsum_app, List.getElem?_eq_getElem h, at_getElem h]
  show _ + lsum g [l[j]] = _
  rw [lsum, lsum, Rat.add_zero]
theorem sumTo_left {h : Nat → Rat} : ∀ n, sumTo h (n + 1) = h 0 + sumTo (fun i => h (i + 1)) n
  | 0 => by rw [sumTo, sumTo, sumTo, Rat.zero_add, Rat.add_zero]
  | n + 1 => by rw [sumTo, sumTo_left n, sumTo, Rat.add_assoc]
theorem sumTo_rev {h : Nat → Rat} : ∀ n, sumTo (fun j => h (n - 1 - j)) n = sumTo h n
  | 0 => rfl
  | n + 1 => by
    rw [sumTo_left n]
    have e : sumTo (fun i => h (n + 1 - 1 - (i + 1))) n = sumTo (fun j => h (n - 1 - j)) n := sumTo_congr n fun i hi => by
      rw [show n + 1 - 1 - (i + 1) = n - 1 - i by omega]
    rw [e, sumTo_rev n, sumTo, Rat.add_comm]
    rfl
theorem sumTo_add2 {g h : Nat → Rat} : ∀ n, sumTo g n + sumTo h n = sumTo (fun i => g i + h i) n
  | 0 => Rat.add_zero 0
  | n + 1 => by
    rw [sumTo, sumTo, sumTo, ← sumTo_add2 n]
    grind
theorem sumTo_sub2 {g h : Nat → Rat} : ∀ n, sumTo g n - sumTo h n = sumTo (fun i => g i - h i) n
  | 0 => by rw [sumTo, sumTo, sumTo]; exact sub_eq_zero.2 rfl
  | n + 1 => by
    rw [sumTo, sumTo, sumTo, ← sumTo_sub2 n]
    grind
theorem sumTo_comm {F : Nat → Nat → Rat} (N : Nat) : ∀ n, sumTo (fun s => sumTo (fun i => F s i) n) N = sumTo (fun i => sumTo (fun s => F s i) N) n
  | 0 => sumTo_zero N (fun _ _ => rfl)
  | n + 1 => by
    rw [sumTo, ← sumTo_comm N n, sumTo_add2]
    rfl
theorem sumTo_delta {g : Nat → Rat} {a : Nat} : ∀ N, a < N → sumTo (fun s => if s = a then g s else 0) N = g a
  | 0, h => absurd h (by omega)
  | N + 1, h => by
    rw [sumTo]
    rcases Nat.lt_or_ge a N with h1 | h1
    · rw [sumTo_delta N h1, if_neg (by omega), Rat.add_zero]
    · obtain rfl : a = N := by omega
      rw [sumTo_zero a (fun i hi => if_neg (by omega)), if_pos rfl, Rat.zero_add]
set_option maxRecDepth 10000 in
theorem flp_tab : ∀ s : Nat, s < 256 → ∀ i : Nat, i < 8 → flp (flp s i) i = s ∧ (s / 2 ^ i % 2 = 0 → flp s i / 2 ^ i % 2 = 1) ∧ (s / 2 ^ i % 2 = 1 → flp s i / 2 ^ i % 2 = 0) := by decide +kernel
set_option maxRecDepth 10000 in
theorem flp_ne_tab : ∀ s : Nat, s < 256 → ∀ i : Nat, i < 8 → ∀ j : Nat, j < 8 → j ≠ i → flp s i / 2 ^ j % 2 = s / 2 ^ j % 2 := by decide +kernel
theorem pr_congr {u : Nat → Rat} {x y : Nat} : ∀ n, (∀ j, j < n → x / 2 ^ j % 2 = y / 2 ^ j % 2) → pr u n x = pr u n y
  | 0, _ => rfl
  | n + 1, h => by rw [pr, pr, pr_congr n (fun j hj => h j (by omega)), h n (by omega)]
theorem pr_flp {u : Nat → Rat} {s i : Nat} (hs : s < 256) (hi8 : i < 8) (hb : s / 2 ^ i % 2 = 0) : ∀ n, i < n → n ≤ 8 → pr u n (flp s i) * (1 - u i) = pr u n s * u i
  | 0, h, _ => absurd h (by omega)
  | n + 1, h, h8 => by
    rw [pr, pr]
    rcases Nat.lt_or_ge i n with h1 | h1
    · have ih := pr_flp (u := u) hs hi8 hb n h1 (by omega)
      rw [flp_ne_tab s hs i hi8 n (by omega) (by omega)]
      generalize (if s / 2 ^ n % 2 = 0 then 1 - u n else u n) = z
      grind
    · obtain rfl : i = n := by omega
      rw [pr_congr i (fun j hj => flp_ne_tab s hs i hi8 j (by omega) (by omega)), if_pos hb, if_neg (by rw [(flp_tab s hs i hi8).2.1 hb]; omega)]
      grind
section
variable {f r : List GRat} {n : Nat}
/-- The flow along a move. -/
def wS (f r : List GRat) (n s i : Nat) : Rat := pr (uval f r) n s * valR (rateAt f r s i)
def wt (f r : List GRat) (n : Nat) (m : GMove) : Rat := pr (uval f r) n m.From.toNat * valR m.Rate
def ct (f r : List GRat) (n t : Nat) (m : GMove) : Rat := (if m.To = (t : Int) then wt f r n m else 0) - (if m.From = (t : Int) then wt f r n m else 0)
theorem ct_itm {s i t : Nat} : ct f r n t (itm f r s i) = (if t = flp s i then wS f r n s i else 0) - (if t = s then wS f r n s i else 0) := by
  have e : wt f r n (itm f r s i) = wS f r n s i := by
    show pr (uval f r) n (Int.toNat (s : Int)) * _ = _
    rw [Int.toNat_natCast]; rfl
  have c1 : ((itm f r s i).To = (t : Int)) ↔ t = flp s i := by
    show ((flp s i : Nat) : Int) = (t : Int) ↔ _
    omega
  have c2 : ((itm f r s i).From = (t : Int)) ↔ t = s := by
    show ((s : Nat) : Int) = (t : Int) ↔ _
    omega
  unfold ct
  rw [e]
  simp only [c1, c2]
theorem lsum_if {g : GMove → Rat} {c : Prop} [Decidable c] {m : GMove} : lsum g (if c then [m] else []) = if c then g m else 0 := by
  split
  · rw [lsum, lsum, Rat.add_zero]
  · rfl
theorem lsum_dn {g : GMove → Rat} {s : Nat} : ∀ k, lsum g (dn f r s n k) = sumTo (fun j => if s / 2 ^ (n - 1 - j) % 2 = 1 ∧ good f r s (n - 1 - j) = true then g (itm f r s (n - 1 - j)) else 0) k
  | 0 => rfl
  | k + 1 => by rw [dn, lsum_app, lsum_dn k, lsum_if, sumTo]
theorem lsum_up {g : GMove → Rat} {s : Nat} : ∀ k, lsum g (up f r s k) = sumTo (fun j => if s / 2 ^ j % 2 = 0 ∧ good f r s j = true then g (itm f r s j) else 0) k
  | 0 => rfl
  | k + 1 => by rw [up, lsum_app, lsum_up k, lsum_if, sumTo]
def dS (f r : List GRat) (n t s i : Nat) : Rat := (if t = flp s i then wS f r n s i else 0) - (if t = s then wS f r n s i else 0)
theorem block_sum {s t : Nat} (hz : ∀ i, i < n → good f r s i = false → valR (rateAt f r s i) = 0) : lsum (ct f r n t) (dn f r s n n ++ up f r s n) = sumTo (fun i => dS f r n t s i) n := by
  rw [lsum_app, lsum_dn, lsum_up, sumTo_rev (h := fun j => if s / 2 ^ j % 2 = 1 ∧ good f r s j = true then ct f r n t (itm f r s j) else 0), sumTo_add2]
  refine sumTo_congr n fun i hi => ?_
  rw [ct_itm]
  cases hg : good f r s i with
  | true =>
    rcases bit01 s i with hb | hb
    · rw [if_pos ⟨hb, rfl⟩, if_neg (c := s / 2 ^ i % 2 = 0 ∧ true = true) (fun hh => by have := hh.1; omega), Rat.add_zero]; rfl
    · rw [if_neg (c := s / 2 ^ i % 2 = 1 ∧ true = true) (fun hh => by have := hh.1; omega), if_pos ⟨hb, rfl⟩, Rat.zero_add]; rfl
  | false =>
    have hw : wS f r n s i = 0 := by rw [wS, hz i hi hg, Rat.mul_zero]
    rw [if_neg (fun hh => by cases hh.2), if_neg (fun hh => by cases hh.2), dS, hw]
    split <;> split <;> decide +kernel
theorem mvs_sum {t : Nat} : ∀ S, (∀ s, s < S → ∀ i, i < n → good f r s i = false → valR (rateAt f r s i) = 0) → lsum (ct f r n t) (mvs f r n S) = sumTo (fun s => sumTo (fun i => dS f r n t s i) n) S
  | 0, _ => rfl
  | S + 1, h => by rw [mvs, lsum_app, mvs_sum S (fun s hs => h s (by omega)), block_sum (h S (by omega)), sumTo]
theorem balance {t i : Nat} (h8 : n ≤ 8) (ht : t < 2 ^ n) (hi : i < n) (hne : valR (at' f (i : Int)) + valR (at' r (i : Int)) ≠ 0) : wS f r n (flp t i) i = wS f r n t i := by
  have h256 : t < 256 := Nat.lt_of_lt_of_le ht (pow_le_256 h8)
  have key : ∀ s, s < 256 → s / 2 ^ i % 2 = 0 → wS f r n (flp s i) i = wS f r n s i := by
    intro s hs hb
    have h1 := pr_flp (u := uval f r) hs (by omega) hb n hi h8
    have e1 : rateAt f r s i = at' f (i : Int) := if_neg (by omega)
    have e2 : rateAt f r (flp s i) i = at' r (i : Int) := if_pos ((flp_tab s hs i (by omega)).2.1 hb)
    unfold wS
    rw [e1, e2]
    have h2 : uval f r i * (valR (at' f (i : Int)) + valR (at' r (i : Int))) = valR (at' f (i : Int)) := Rat.div_mul_cancel hne
    generalize uval f r i = u at *
    generalize valR (at' f (i : Int)) = a at *
    generalize valR (at' r (i : Int)) = b at *
    generalize pr (uval f r) n (flp s i) = p at *
    generalize pr (uval f r) n s = q at *
    have h3 : b = (1 - u) * (a + b) := by grind
    have h4 : p * b = (p * (1 - u)) * (a + b) := by rw [Rat.mul_assoc, ← h3]
    rw [h4, h1, Rat.mul_assoc, h2]
  rcases bit01 t i with hb | hb
  · have h3 := (flp_tab t h256 i (by omega)).2.2 hb
    have h4 := key (flp t i) (Nat.lt_of_lt_of_le (flp_lt ht hi) (pow_le_256 h8)) h3
    rw [(flp_tab t h256 i (by omega)).1] at h4
    exact h4.symm
  · exact key t h256 hb
/-- As much flows into each state as out of it. -/
theorem net_zero {t : Nat} (h8 : n ≤ 8) (ht : t < 2 ^ n) (hne : ∀ i : Nat, i < n → valR (at' f (i : Int)) + valR (at' r (i : Int)) ≠ 0) (hz : ∀ s, s < 2 ^ n → ∀ i, i < n → good f r s i = false → valR (rateAt f r s i) = 0) : lsum (ct f r n t) (mvs f r n (2 ^ n)) = 0 := by
  rw [mvs_sum _ hz, sumTo_comm]
  refine sumTo_zero n fun i hi => ?_
  have h256 : t < 256 := Nat.lt_of_lt_of_le ht (pow_le_256 h8)
  have e : sumTo (fun s => dS f r n t s i) (2 ^ n) = sumTo (fun s => (if s = flp t i then wS f r n s i else 0) - (if s = t then wS f r n s i else 0)) (2 ^ n) := sumTo_congr _ fun s hs => by
    have hs256 : s < 256 := Nat.lt_of_lt_of_le hs (pow_le_256 h8)
    have c1 : (t = flp s i) ↔ (s = flp t i) := ⟨fun hh => by rw [hh, (flp_tab s hs256 i (by omega)).1], fun hh => by rw [hh, (flp_tab t h256 i (by omega)).1]⟩
    have c2 : (t = s) ↔ (s = t) := ⟨Eq.symm, Eq.symm⟩
    unfold dS
    simp only [c1, c2]
  rw [e, ← sumTo_sub2, sumTo_delta _ (flp_lt ht hi), sumTo_delta _ ht]
  exact sub_eq_zero.2 (balance h8 ht hi (hne i hi))
end
end Go.Gg
