/- Fractions as values: how a fraction of words and a rational number belong together. Conditions: none. -/
import Derived.Test.YtonbnfgknijpoaaRefC
namespace Go.Gg

def sgn (neg : Bool) (n : Nat) : Int := if neg then -(n : Int) else n
def ratOf (q : Rat) : GRat := if q.num = 0 then ⟨false, [], []⟩ else ⟨decide (q.num < 0), lim q.num.natAbs, lim q.den⟩
def rawR (a : GRat) : Rat := mkRat (sgn a.Neg (val a.Num)) (val a.Den)
def eqR (a b : GRat) : Bool := a.Neg == b.Neg && a.Num == b.Num && a.Den == b.Den
/-- The fraction is valid. -/
def okR (a : GRat) : Bool := eqR a (ratOf (rawR a))
/-- The number for which a fraction counts. -/
def valR (a : GRat) : Rat := if okR a then rawR a else 0

theorem eqR_iff {a b : GRat} : eqR a b = true ↔ a = b := by
  cases a; cases b
  simp [eqR, and_assoc]
theorem sgn_natAbs {n : Int} : sgn (decide (n < 0)) n.natAbs = n := by
  unfold sgn
  by_cases h : n < 0
  · simp only [h, decide_true, if_true]; omega
  · simp only [h, decide_false, Bool.false_eq_true, if_false]; omega
theorem rawR_ratOf (q : Rat) : rawR (ratOf q) = q := by
  unfold ratOf
  by_cases h : q.num = 0
  · rw [if_pos h]
    have : q = 0 := Rat.num_eq_zero.1 h
    subst this
    simp [rawR, sgn, val_nil]
  · rw [if_neg h]
    simp only [rawR]
    rw [val_lim, val_lim, sgn_natAbs, Rat.mkRat_self]
theorem okR_ratOf (q : Rat) : okR (ratOf q) = true := by
  unfold okR
  rw [rawR_ratOf]
  exact eqR_iff.2 rfl
theorem valR_ratOf (q : Rat) : valR (ratOf q) = q := by rw [valR, okR_ratOf, if_pos rfl, rawR_ratOf]
theorem okR_eq {a : GRat} (h : okR a = true) : a = ratOf (valR a) := by
  have := eqR_iff.1 h
  rw [valR, h, if_pos rfl]
  exact this
theorem ratOf_inj {p q : Rat} (h : ratOf p = ratOf q) : p = q := by rw [← rawR_ratOf p, ← rawR_ratOf q, h]
theorem ratOf_zero : ratOf 0 = ⟨false, [], []⟩ := rfl

/-- Words that end in one that is not zero. -/
def plainB (l : List Int) : Bool := decide (0 < l.length) && (l.getD (l.length - 1) 0 != 0)
theorem plain_lim {n : Nat} (h : n ≠ 0) : plainB (lim n) = true := by
  have h1 := lim_top h
  have h2 : (lim n).length ≠ 0 := by rw [lim_pos (by omega)]; simp
  simp only [plainB, Bool.and_eq_true, decide_eq_true_eq, bne_iff_ne]
  exact ⟨by omega, h1⟩
theorem plain_val {l : List Int} (hw : Words l) (h : plainB l = true) : lim (val l) = l ∧ val l ≠ 0 := by
  simp only [plainB, Bool.and_eq_true, decide_eq_true_eq, bne_iff_ne] at h
  have h1 := lim_val hw (fun _ => h.2)
  refine ⟨h1, fun h0 => ?_⟩
  rw [h0, lim_zero] at h1
  rw [← h1] at h
  simp at h
theorem sgn_neg {b : Bool} {n : Nat} (h : n ≠ 0) : decide (sgn b n < 0) = b := by
  cases b
  · simp [sgn]
  · simp [sgn]; omega
theorem sgn_abs {b : Bool} {n : Nat} : (sgn b n).natAbs = n := by cases b <;> simp [sgn]
theorem sgn_zero {b : Bool} : sgn b 0 = 0 := by cases b <;> rfl
theorem sgn_ne {b : Bool} {n : Nat} (h : n ≠ 0) : sgn b n ≠ 0 := by
  intro h0
  have := sgn_abs (b := b) (n := n)
  rw [h0] at this
  exact h (by simpa using this.symm)
/-- A fraction in lowest terms. -/
theorem ratOf_mk {b : Bool} {n d : Nat} (hn : n ≠ 0) (hd : d ≠ 0) : ratOf (mkRat (sgn b n) d) = ⟨b, lim (n / Nat.gcd n d), lim (d / Nat.gcd n d)⟩ := by
  have e1 : (mkRat (sgn b n) d).num = sgn b (n / Nat.gcd n d) := by
    rw [Rat.num_mkRat, if_neg hd, sgn_abs, Nat.gcd_comm]
    cases b
    · simp [sgn]
    · simp only [sgn, if_true]
      have : ((Nat.gcd n d : Nat) : Int) ∣ (n : Int) := Int.natCast_dvd_natCast.2 (Nat.gcd_dvd_left n d)
      rw [Int.neg_ediv_of_dvd this]
      simp
  have e2 : (mkRat (sgn b n) d).den = d / Nat.gcd n d := by rw [Rat.den_mkRat, if_neg hd, sgn_abs, Nat.gcd_comm]
  have hg : 0 < n / Nat.gcd n d := Nat.div_pos (Nat.le_of_dvd (by omega) (Nat.gcd_dvd_left n d)) (Nat.gcd_pos_of_pos_left _ (by omega))
  unfold ratOf
  rw [e1, e2, if_neg (sgn_ne (by omega)), sgn_neg (by omega), sgn_abs]
theorem ratOf_mk0 {b : Bool} {d : Nat} : ratOf (mkRat (sgn b 0) d) = ⟨false, [], []⟩ := by rw [sgn_zero, Rat.zero_mkRat]; rfl

theorem okR_iff {a : GRat} (hn : Words a.Num) (hd : Words a.Den) :
    okR a = if a.Num.length = 0 ∧ a.Den.length = 0 then !a.Neg else plainB a.Num && (plainB a.Den && decide (Nat.gcd (val a.Num) (val a.Den) = 1)) := by
  obtain ⟨b, n, d⟩ := a
  simp only at hn hd ⊢
  by_cases h : n.length = 0 ∧ d.length = 0
  · rw [if_pos h]
    obtain rfl := List.eq_nil_of_length_eq_zero h.1
    obtain rfl := List.eq_nil_of_length_eq_zero h.2
    simp only [okR, rawR, val_nil, ratOf_mk0]
    cases b <;> rfl
  · rw [if_neg h]
    cases hp : plainB n with
    | false =>
      rw [Bool.false_and]
      cases ho : okR ⟨b, n, d⟩ with
      | false => rfl
      | true =>
        exfalso
        have e := okR_eq ho
        unfold ratOf at e
        split at e
        · cases e; exact h ⟨rfl, rfl⟩
        · rename_i hz
          injection e with e1 e2 e3
          rw [e2, plain_lim (by omega)] at hp
          cases hp
    | true =>
    rw [Bool.true_and]
    cases hq : plainB d with
    | false =>
      rw [Bool.false_and]
      cases ho : okR ⟨b, n, d⟩ with
      | false => rfl
      | true =>
        exfalso
        have e := okR_eq ho
        unfold ratOf at e
        split at e
        · cases e; exact h ⟨rfl, rfl⟩
        · rename_i hz
          injection e with e1 e2 e3
          rw [e3, plain_lim (Rat.den_nz _)] at hq
          cases hq
    | true =>
    rw [Bool.true_and]
    obtain ⟨n1, n2⟩ := plain_val hn hp
    obtain ⟨d1, d2⟩ := plain_val hd hq
    have hm : ratOf (rawR ⟨b, n, d⟩) = ⟨b, lim (val n / Nat.gcd (val n) (val d)), lim (val d / Nat.gcd (val n) (val d))⟩ := ratOf_mk n2 d2
    by_cases hg : Nat.gcd (val n) (val d) = 1
    · rw [hg] at hm
      simp only [hg, decide_true]
      rw [okR]
      refine eqR_iff.2 ?_
      rw [hm, Nat.div_one, Nat.div_one, n1, d1]
    · simp only [hg, decide_false]
      cases ho : okR ⟨b, n, d⟩ with
      | false => rfl
      | true =>
        exfalso
        have e := eqR_iff.1 ho
        rw [hm] at e
        injection e with e1 e2 e3
        have e4 : val n = val n / Nat.gcd (val n) (val d) := by
          have := congrArg val e2
          rwa [val_lim] at this
        have hgp : 0 < Nat.gcd (val n) (val d) := Nat.gcd_pos_of_pos_left _ (by omega)
        have := Nat.div_lt_self (n := val n) (by omega) (show 1 < Nat.gcd (val n) (val d) by omega)
        omega

/-- The fraction's numbers fit so many bits. -/
def RB (k : Nat) (q : Rat) : Prop := q.num.natAbs < 2 ^ k ∧ q.den < 2 ^ k
theorem RB.mono {k l : Nat} {q : Rat} (h : RB k q) (hkl : k ≤ l) : RB l q :=
  ⟨Nat.lt_of_lt_of_le h.1 (Nat.pow_le_pow_right (by omega) hkl), Nat.lt_of_lt_of_le h.2 (Nat.pow_le_pow_right (by omega) hkl)⟩
theorem lim_len_bits {n k : Nat} (h : n < 2 ^ k) : (lim n).length ≤ k / 32 + 1 := by
  refine lim_len_lt (Nat.lt_of_lt_of_le h ?_)
  have : (4294967296 : Nat) ^ (k / 32 + 1) = 2 ^ (32 * (k / 32 + 1)) := by rw [Nat.pow_mul]
  rw [this]
  exact Nat.pow_le_pow_right (by omega) (by omega)
theorem RB_zero (k : Nat) (hk : 1 ≤ k) : RB k 0 := ⟨by simp; exact Nat.pow_pos (by omega), by
  have : 2 ^ 1 ≤ 2 ^ k := Nat.pow_le_pow_right (by omega) hk
  simp; omega⟩
theorem mul_lt_pow2 {m n k l : Nat} (h : m < 2 ^ k) (h' : n < 2 ^ l) : m * n < 2 ^ (k + l) := by
  rw [Nat.pow_add]
  exact Nat.mul_lt_mul'' h h'
theorem RB_mkRat {n : Int} {d k : Nat} (hd : d ≠ 0) (hn : n.natAbs < 2 ^ k) (hdk : d < 2 ^ k) : RB k (mkRat n d) := by
  refine ⟨?_, ?_⟩
  · rw [Rat.num_mkRat, if_neg hd]
    refine Nat.lt_of_le_of_lt ?_ hn
    exact Int.natAbs_ediv_le_natAbs _ _
  · rw [Rat.den_mkRat, if_neg hd]
    exact Nat.lt_of_le_of_lt (Nat.div_le_self _ _) hdk
theorem RB_mul {k l : Nat} {p q : Rat} (hp : RB k p) (hq : RB l q) : RB (k + l) (p * q) := by
  rw [Rat.mul_def']
  refine RB_mkRat (Nat.mul_ne_zero p.den_nz q.den_nz) ?_ (mul_lt_pow2 hp.2 hq.2)
  rw [Int.natAbs_mul]
  exact mul_lt_pow2 hp.1 hq.1
theorem RB_add {k l : Nat} {p q : Rat} (hp : RB k p) (hq : RB l q) : RB (k + l + 1) (p + q) := by
  rw [Rat.add_def']
  refine RB_mkRat (Nat.mul_ne_zero p.den_nz q.den_nz) ?_ (Nat.lt_of_lt_of_le (mul_lt_pow2 hp.2 hq.2) (Nat.pow_le_pow_right (by omega) (by omega)))
  have h1 : (p.num * q.den).natAbs < 2 ^ (k + l) := by rw [Int.natAbs_mul]; exact mul_lt_pow2 hp.1 (by simpa using hq.2)
  have h2 : (q.num * p.den).natAbs < 2 ^ (k + l) := by rw [Int.natAbs_mul, Nat.add_comm k l]; exact mul_lt_pow2 hq.1 (by simpa using hp.2)
  have h3 := Int.natAbs_add_le (p.num * q.den) (q.num * p.den)
  rw [Nat.pow_succ]
  omega
theorem RB_neg {k : Nat} {p : Rat} (hp : RB k p) : RB k (-p) := ⟨by simpa using hp.1, hp.2⟩
theorem RB_inv {k : Nat} {p : Rat} (hp : RB k p) : RB k p⁻¹ := by
  by_cases h0 : p.num = 0
  · have : p = 0 := Rat.num_eq_zero.1 h0
    subst this
    simpa using hp
  · refine ⟨?_, ?_⟩
    · rw [Rat.num_inv, Int.natAbs_mul, Int.natAbs_sign_of_ne_zero h0, Nat.one_mul]; simpa using hp.2
    · rw [Rat.den_inv, if_neg h0]; exact hp.1
theorem RB_div {k l : Nat} {p q : Rat} (hp : RB k p) (hq : RB l q) : RB (k + l) (p / q) := by rw [Rat.div_def]; exact RB_mul hp (RB_inv hq)
theorem RB_sub {k l : Nat} {p q : Rat} (hp : RB k p) (hq : RB l q) : RB (k + l + 1) (p - q) := by rw [Rat.sub_eq_add_neg]; exact RB_add hp (RB_neg hq)
theorem RB_int {k : Nat} {n : Int} (hk : 1 ≤ k) (h : n.natAbs < 2 ^ k) : RB k (n : Rat) := ⟨h, by
  have : 2 ^ 1 ≤ 2 ^ k := Nat.pow_le_pow_right (by omega) hk
  show 1 < 2 ^ k
  omega⟩
/-- A fraction of so many words. -/
theorem RB_valR {a : GRat} {m : Nat} (hn : Words a.Num) (hd : Words a.Den) (h1 : a.Num.length ≤ m) (h2 : a.Den.length ≤ m) : RB (32 * m + 1) (valR a) := by
  unfold valR
  split
  · unfold rawR
    by_cases hd0 : val a.Den = 0
    · rw [hd0, Rat.mkRat_zero]; exact RB_zero _ (by omega)
    · have e : ∀ l : List Int, Words l → l.length ≤ m → val l < 2 ^ (32 * m + 1) := fun l hw hl => by
        have k1 := val_lt_pow hw
        have k2 : (4294967296 : Nat) ^ l.length ≤ 4294967296 ^ m := Nat.pow_le_pow_right (by omega) hl
        have k3 : (4294967296 : Nat) ^ m = 2 ^ (32 * m) := by rw [Nat.pow_mul]
        have k4 : 2 ^ (32 * m) ≤ 2 ^ (32 * m + 1) := Nat.pow_le_pow_right (by omega) (by omega)
        omega
      exact RB_mkRat hd0 (by rw [sgn_abs]; exact e _ hn h1) (e _ hd h2)
  · exact RB_zero _ (by omega)
end Go.Gg
