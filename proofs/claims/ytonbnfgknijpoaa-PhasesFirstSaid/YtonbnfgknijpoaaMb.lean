/- Fractions as values: how a fraction of words and a rational number belong together. Conditions: none. -/
import Derived.Test.YtonbnfgknijpoaaMa
import Derived.Test.YtonbnfgknijpoaaWB
namespace Go.Gg

def sgn (neg : Bool) (n : Nat) : Int := if neg then -(n : Int) else n
def ratOf (q : Rat) : GRat := if q.num = 0 then ⟨false, [], []⟩ else ⟨decide (q.num < 0), lim q.num.natAbs, lim q.den⟩
def rawR (a : GRat) : Rat := mkRat (sgn a.Neg (val a.Num)) (val a.Den)
def eqR (a b : GRat) : Bool := a.Neg == b.Neg && a.Num == b.Num && a.Den == b.Den
/-- The fraction is valid. -/
def okR (a : GRat) : Bool := eqR a (ratOf (rawR a))
/-- The number for which a fraction counts. -/
def valR (a : GRat) : Rat := if okR a then rawR a else 0

theorem eqR_iff {a b : GRat} : eqR a b = true ↔ a = b := by
  cases a; cases b
  simp [eqR, and_assoc]
theorem sgn_natAbs {n : Int} : sgn (decide (n < 0)) n.natAbs = n := by
  unfold sgn
  by_cases h : n < 0
  · simp only [h, decide_true, if_true]; omega
  · simp only [h, decide_false, Bool.false_eq_true, if_false]; omega
theorem rawR_ratOf (q : Rat) : rawR (ratOf q) = q := by
  unfold ratOf
  by_cases h : q.num = 0
  · rw [if_pos h]
    have : q = 0 := Rat.num_eq_zero.1 h
    subst this
    simp [rawR, sgn, val_nil]
  · rw [if_neg h]
    simp only [rawR]
    rw [val_lim, val_lim, sgn_natAbs, Rat.mkRat_self]
theorem okR_ratOf (q : Rat) : okR (ratOf q) = true := by
  unfold okR
  rw [rawR_ratOf]
  exact eqR_iff.2 rfl
theorem valR_ratOf (q : Rat) : valR (ratOf q) = q := by rw [valR, okR_ratOf, if_pos rfl, rawR_ratOf]
theorem okR_eq {a : GRat} (h : okR a = true) : a = ratOf (valR a) := by
  have := eqR_iff.1 h
  rw [valR, h, if_pos rfl]
  exact this
theorem ratOf_inj {p q : Rat} (h : ratOf p = ratOf q) : p = q := by rw [← rawR_ratOf p, ← rawR_ratOf q, h]
theorem ratOf_zero : ratOf 0 = ⟨false, [], []⟩ := rfl

/-- Words that end in one that is not zero. -/
def plainB (l : List Int) : Bool := decide (0 < l.length) && (l.getD (l.length - 1) 0 != 0)
theorem plain_lim {n : Nat} (h : n ≠ 0) : plainB (lim n) = true := by
  have h1 := lim_top h
  have h2 : (lim n).length ≠ 0 := by rw [lim_pos (by omega)]; simp
  simp only [plainB, Bool.and_eq_true, decide_eq_true_eq, bne_iff_ne]
  exact ⟨by omega, h1⟩
theorem plain_val {l : List Int} (hw : Words l) (h : plainB l = true) : lim (val l) = l ∧ val l ≠ 0 := by
  simp only [plainB, Bool.and_eq_true, decide_eq_true_eq, bne_iff_ne] at h
  have h1 := lim_val hw (fun _ => h.2)
  refine ⟨h1, fun h0 => ?_⟩
  rw [h0, lim_zero] at h1
  rw [← h1] at h
  simp at h
theorem sgn_neg {b : Bool} {n : Nat} (h : n ≠ 0) : decide (sgn b n < 0) = b := by
  cases b
  · simp [sgn]
  · simp [sgn]; omega
theorem sgn_abs {b : Bool} {n : Nat} : (sgn b n).natAbs = n := by cases b <;> simp [sgn]
theorem sgn_zero {b : Bool} : sgn b 0 = 0 := by cases b <;> rfl
theorem sgn_ne {b : Bool} {n : Nat} (h : n ≠ 0) : sgn b n ≠ 0 := by
  intro h0
  have := sgn_abs (b := b) (n := n)
  rw [h0] at this
  exact h (by simpa using this.symm)
/-- A fraction in lowest terms. -/
theorem ratOf_mk {b : Bool} {n d : Nat} (hn : n ≠ 0) (hd : d ≠ 0) : ratOf (mkRat (sgn b n) d) = ⟨b, lim (n / Nat.gcd n d), lim (d / Nat.gcd n d)⟩ := by
  have e1 : (mkRat (sgn b n) d).num = sgn b (n / Nat.gcd n d) := by
    rw [Rat.num_mkRat, if_neg hd, sgn_abs, Nat.gcd_comm]
    cases b
    · simp [sgn]
    · simp only [sgn, if_true]
      have : ((Nat.gcd n d : Nat) : Int) ∣ (n : Int) := Int.natCast_dvd_natCast.2 (Nat.gcd_dvd_left n d)
      rw [Int.neg_ediv_of_dvd this]
      simp
  have e2 : (mkRat (sgn b n) d).den = d / Nat.gcd n d := by rw [Rat.den_mkRat, if_neg hd, sgn_abs, Nat.gcd_comm]
  have hg : 0 < n / Nat.gcd n d := Nat.div_pos (Nat.le_of_dvd (by omega) (Nat.gcd_dvd_left n d)) (Nat.gcd_pos_of_pos_left _ (by omega))
  unfold ratOf
  rw [e1, e2, if_neg (sgn_ne (by omega)), sgn_neg (by omega), sgn_abs]
theorem ratOf_mk0 {b : Bool} {d : Nat} : ratOf (mkRat (sgn b 0) d) = ⟨false, [], []⟩ := by rw [sgn_zero, Rat.zero_mkRat]; rfl

theorem okR_iff {a : GRat} (hn : Words a.Num) (hd : Words a.Den) :
    okR a = if a.Num.length = 0 ∧ a.Den.length = 0 then !a.Neg else plainB a.Num && (plainB a.Den && decide (Nat.gcd (val a.Num) (val a.Den) = 1)) := by
  obtain ⟨b, n, d⟩ := a
  simp only at hn hd ⊢
  by_cases h : n.length = 0 ∧ d.length = 0
  · rw [if_pos h]
    obtain rfl := List.eq_nil_of_length_eq_zero h.1
    obtain rfl := List.eq_nil_of_length_eq_zero h.2
    simp only [okR, rawR, val_nil, ratOf_mk0]
    cases b <;> rfl
  · rw [if_neg h]
    cases hp : plainB n with
    | false =>
      rw [Bool.false_and]
      cases ho : okR ⟨b, n, d⟩ with
      | false => rfl
      | true =>
        exfalso
        have e := okR_eq ho
        unfold ratOf at e
        split at e
        · cases e; exact h ⟨rfl, rfl⟩
        · rename_i hz
          injection e with e1 e2 e3
          rw [e2, plain_lim (by omega)] at hp
          cases hp
    | true =>
    rw [Bool.true_and]
    cases hq : plainB d with
    | false =>
      rw [Bool.false_and]
      cases ho : okR ⟨b, n, d⟩ with
      | false => rfl
      | true =>
        exfalso
        have e := okR_eq ho
        unfold ratOf at e
        split at e
        · cases e; exact h ⟨rfl, rfl⟩
        · rename_i hz
          injection e with e1 e2 e3
          rw [e3, plain_lim (Rat.den_nz _)] at hq
          cases hq
    | true =>
    rw [Bool.true_and]
    obtain ⟨n1, n2⟩ := plain_val hn hp
    obtain ⟨d1, d2⟩ := plain_val hd hq
    have hm : ratOf (rawR ⟨b, n, d⟩) = ⟨b, lim (val n / Nat.gcd (val n) (val d)), lim (val d / Nat.gcd (val n) (val d))⟩ := ratOf_mk n2 d2
    by_cases hg : Nat.gcd (val n) (val d) = 1
    · rw [hg] at hm
      simp only [hg, decide_true]
      rw [okR]
      refine eqR_iff.2 ?_
      rw [hm, Nat.div_one, Nat.div_one, n1, d1]
    · simp only [hg, decide_false]
      cases ho : okR ⟨b, n, d⟩ with
      | false => rfl
      | true =>
        exfalso
        have e := eqR_iff.1 ho
        rw [hm] at e
        injection e with e1 e2 e3
        have e4 : val n = val n / Nat.gcd (val n) (val d) := by
          have := congrArg val e2
          rwa [val_lim] at this
        have hgp : 0 < Nat.gcd (val n) (val d) := Nat.gcd_pos_of_pos_left _ (by omega)
        have := Nat.div_lt_self (n := val n) (by omega) (show 1 < Nat.gcd (val n) (val d) by omega)
        omega

/-- The fraction's numbers fit so many bits. -/
def RB (k : Nat) (q : Rat) : Prop := q.num.natAbs < 2 ^ k ∧ q.den < 2 ^ k
theorem RB.mono {k l : Nat} {q : Rat} (h : RB k q) (hkl : k ≤ l) : RB l q :=
  ⟨Nat.lt_of_lt_of_le h.1 (Nat.pow_le_pow_right (by omega) hkl), Nat.lt_of_lt_of_le h.2 (Nat.pow_le_pow_right (by omega) hkl)⟩
theorem lim_len_bits {n k : Nat} (h : n < 2 ^ k) : (lim n).length ≤ k / 32 + 1 := by
  refine lim_len_lt (Nat.lt_of_lt_of_le h ?_)
  have : (4294967296 : Nat) ^ (k / 32 + 1) = 2 ^ (32 * (k / 32 + 1)) := by rw [Nat.pow_mul]
  rw [this]
  exact Nat.pow_le_pow_right (by omega) (by omega)
theorem RB_zero (k : Nat) (hk : 1 ≤ k) : RB k 0 := ⟨by simp; exact Nat.pow_pos (by omega), by
  have : 2 ^ 1 ≤ 2 ^ k := Nat.pow_le_pow_right (by omega) hk
  simp; omega⟩
theorem mul_lt_pow2 {m n k l : Nat} (h : m < 2 ^ k) (h' : n < 2 ^ l) : m * n < 2 ^ (k + l) := by
  rw [Nat.pow_add]
  exact Nat.mul_lt_mul'' h h'
theorem RB_mkRat {n : Int} {d k : Nat} (hd : d ≠ 0) (hn : n.natAbs < 2 ^ k) (hdk : d < 2 ^ k) : RB k (mkRat n d) := by
  refine ⟨?_, ?_⟩
  · rw [Rat.num_mkRat, if_neg hd]
    refine Nat.lt_of_le_of_lt ?_ hn
    exact Int.natAbs_ediv_le_natAbs _ _
  · rw [Rat.den_mkRat, if_neg hd]
    exact Nat.lt_of_le_of_lt (Nat.div_le_self _ _) hdk
theorem RB_mul {k l : Nat} {p q : Rat} (hp : RB k p) (hq : RB l q) : RB (k + l) (p * q) := by
  rw [Rat.mul_def']
  refine RB_mkRat (Nat.mul_ne_zero p.den_nz q.den_nz) ?_ (mul_lt_pow2 hp.2 hq.2)
  rw [Int.natAbs_mul]
  exact mul_lt_pow2 hp.1 hq.1
theorem RB_add {k l : Nat} {p q : Rat} (hp : RB k p) (hq : RB l q) : RB (k + l + 1) (p + q) := by
  rw [Rat.add_def']
  refine RB_mkRat (Nat.mul_ne_zero p.den_nz q.den_nz) ?_ (Nat.lt_of_lt_of_le (mul_lt_pow2 hp.2 hq.2) (Nat.pow_le_pow_right (by omega) (by omega)))
  have h1 : (p.num * q.den).natAbs < 2 ^ (k + l) := by rw [Int.natAbs_mul]; exact mul_lt_pow2 hp.1 (by simpa using hq.2)
  have h2 : (q.num * p.den).natAbs < 2 ^ (k + l) := by rw [Int.natAbs_mul, Nat.add_comm k l]; exact mul_lt_pow2 hq.1 (by simpa using hp.2)
  have h3 := Int.natAbs_add_le (p.num * q.den) (q.num * p.den)
  rw [Nat.pow_succ]
  omega
theorem RB_neg {k : Nat} {p : Rat} (hp : RB k p) : RB k (-p) := ⟨by simpa using hp.1, hp.2⟩
theorem RB_inv {k : Nat} {p : Rat} (hp : RB k p) : RB k p⁻¹ := by
  by_cases h0 : p.num = 0
  · have : p = 0 := Rat.num_eq_zero.1 h0
    subst this
    simpa using hp
  · refine ⟨?_, ?_⟩
    · rw [Rat.num_inv, Int.natAbs_mul, Int.natAbs_sign_of_ne_zero h0, Nat.one_mul]; simpa using hp.2
    · rw [Rat.den_inv, if_neg h0]; exact hp.1
theorem RB_div {k l : Nat} {p q : Rat} (hp : RB k p) (hq : RB l q) : RB (k + l) (p / q) := by rw [Rat.div_def]; exact RB_mul hp (RB_inv hq)
theorem RB_sub {k l : Nat} {p q : Rat} (hp : RB k p) (hq : RB l q) : RB (k + l + 1) (p - q) := by rw [Rat.sub_eq_add_neg]; exact RB_add hp (RB_neg hq)
theorem RB_int {k : Nat} {n : Int} (hk : 1 ≤ k) (h : n.natAbs < 2 ^ k) : RB k (n : Rat) := ⟨h, by
  have : 2 ^ 1 ≤ 2 ^ k := Nat.pow_le_pow_right (by omega) hk
  show 1 < 2 ^ k
  omega⟩
/-- A fraction of so many words. -/
theorem RB_valR {a : GRat} {m : Nat} (hn : Words a.Num) (hd : Words a.Den) (h1 : a.Num.length ≤ m) (h2 : a.Den.length ≤ m) : RB (32 * m + 1) (valR a) := by
  unfold valR
  split
  · unfold rawR
    by_cases hd0 : val a.Den = 0
    · rw [hd0, Rat.mkRat_zero]; exact RB_zero _ (by omega)
    · have e : ∀ l : List Int, Words l → l.length ≤ m → val l < 2 ^ (32 * m + 1) := fun l hw hl => by
        have k1 := val_lt_pow hw
        have k2 : (4294967296 : Nat) ^ l.length ≤ 4294967296 ^ m := Nat.pow_le_pow_right (by omega) hl
        have k3 : (4294967296 : Nat) ^ m = 2 ^ (32 * m) := by rw [Nat.pow_mul]
        have k4 : 2 ^ (32 * m) ≤ 2 ^ (32 * m + 1) := Nat.pow_le_pow_right (by omega) (by omega)
        omega
      exact RB_mkRat hd0 (by rw [sgn_abs]; exact e _ hn h1) (e _ hd h2)
  · exact RB_zero _ (by omega)
end Go.Gg
namespace Go.Gg

/-- A fraction whose words are words, and not too many. -/
def Fr (a : GRat) : Prop := Words a.Num ∧ Words a.Den ∧ a.Num.length ≤ 1099511627760 ∧ a.Den.length ≤ 1099511627760
theorem Fr_ratOf {q : Rat} {k : Nat} (h : RB k q) (hk : k ≤ 35184372088000) : Fr (ratOf q) := by
  unfold ratOf
  split
  · exact ⟨Words.nil, Words.nil, by simp, by simp⟩
  · have h1 := lim_len_bits h.1
    have h2 := lim_len_bits h.2
    exact ⟨lim_words _, lim_words _, by dsimp only; omega, by dsimp only; omega⟩
theorem len_lim_zero {n : Nat} : ((lim n).length : Int) = 0 ↔ n = 0 := by
  constructor
  · intro h
    rcases Nat.eq_zero_or_pos n with h0 | h0
    · exact h0
    · rw [lim_pos h0] at h; simp at h; omega
  · rintro rfl; rw [lim_zero]; rfl
theorem blen_eq_zero {n : Nat} : (blen n : Int) = 0 ↔ n = 0 := by
  unfold blen
  split <;> omega
theorem sgn_mul {b : Bool} {m n : Nat} : sgn b (m * n) = sgn b m * (n : Int) := by
  cases b <;> simp [sgn, Int.natCast_mul, Int.neg_mul]
theorem sgn_mul2 {b c : Bool} {m n : Nat} : sgn (b != c) (m * n) = sgn b m * sgn c n := by
  cases b <;> cases c <;> simp [sgn, Int.natCast_mul, Int.neg_mul, Int.mul_neg, Int.neg_neg]
theorem sgn_add {b : Bool} {m n : Nat} : sgn b (m + n) = sgn b m + sgn b n := by
  cases b <;> simp only [sgn, Bool.false_eq_true, if_false, if_true] <;> omega
theorem sgn_sub {b c : Bool} {m n : Nat} (hbc : ¬ b = c) (h : n ≤ m) : sgn b (m - n) = sgn b m + sgn c n := by
  cases b <;> cases c <;> first | exact absurd rfl hbc | (simp only [sgn, Bool.false_eq_true, if_false, if_true]; omega)
theorem sgn_self (q : Rat) : sgn (decide (q.num < 0)) q.num.natAbs = q.num := sgn_natAbs
theorem val_lit {n : Nat} (h : n < 4294967296) : val [(n : Int)] = n := lim_one h
theorem val_one : val [1] = 1 := lim_one (g := 1) (by omega)
theorem lim_1 : lim 1 = [1] := by rw [lim_pos (by omega)]; simp [lim_zero]
theorem Words_one : Words [1] := Words.one (by omega) (by omega)

theorem rational_form_s {neg : Bool} {num den : List Int} {Q : GRat → Prop} (hn : Words num) (hd : Words den) (ln : num.length ≤ 1099511627760) (ld : den.length ≤ 1099511627760)
    (h0 : val den ≠ 0) (h : Q (ratOf (mkRat (sgn neg (val num)) (val den)))) : rational_form_W neg num den Q := by
  refine natural_Bits_s hn (by unfold SM; omega) (condE (fun hc => ?_) (fun hc => ?_))
  · rw [blen_eq_zero] at hc
    rw [hc, ratOf_mk0] at h
    exact h
  · have hn0 : val num ≠ 0 := fun hh => hc (blen_eq_zero.2 hh)
    rw [ratOf_mk hn0 h0] at h
    have hgp : Nat.gcd (val num) (val den) ≠ 0 := Nat.ne_of_gt (Nat.gcd_pos_of_pos_left _ (by omega))
    refine natural_Gcd_s hn hd (by omega) (by omega) ?_
    have hgl : (lim (Nat.gcd (val num) (val den))).length ≤ 1099511627760 := by
      refine Nat.le_trans (lim_len_mono (Nat.gcd_le_left _ (by omega))) (Nat.le_trans (lim_len_le hn) ln)
    refine natural_Div_s hn (lim_words _) (by omega) (by omega) (fun hh => absurd (by rwa [val_lim] at hh) hgp) (fun _ => ?_)
    refine natural_Div_s hd (lim_words _) (by omega) (by omega) (fun hh => absurd (by rwa [val_lim] at hh) hgp) (fun _ => ?_)
    rw [val_lim]
    exact h
theorem rational_plain_s {a : List Int} {Q : Bool → Prop} (la : a.length ≤ 1099511627776) (h : Q (plainB a)) : rational_plain_W a Q := by
  refine condT (fun hc => ⟨by unfold rng; omega, by omega, ?_⟩) (fun hc => ?_)
  · have e : plainB a = (at' a ((a.length : Int) - 1) != 0) := by
      have : (a.length : Int) - 1 = ((a.length - 1 : Nat) : Int) := by omega
      rw [this, at_nat]
      simp only [plainB]
      rw [decide_eq_true (by omega : 0 < a.length), Bool.true_and]
    rw [← e]; exact h
  · have e : plainB a = false := by
      simp only [plainB]
      rw [decide_eq_false (by omega : ¬ 0 < a.length), Bool.false_and]
    rw [e] at h; exact h
theorem condB {b : Bool} {p q : Prop} (h1 : b = true → p) (h2 : b = false → q) : condW b p q := ⟨h1, h2⟩
theorem natural_Cmp_one {n : Nat} {Q : Int → Prop} (hl : (lim n).length ≤ 1099511627776) (h : Q (cmpv n 1)) : natural_Cmp_W (lim n) [1] Q := by
  refine natural_Cmp_s (lim_words _) Words_one (by unfold SM; omega) (by unfold SM; simp) ?_
  rw [val_lim, val_one]
  exact h
theorem cmpv_eq0 {m n : Nat} : (cmpv m n == 0) = decide (m = n) := by
  unfold cmpv
  split
  · rw [decide_eq_false (by omega)]; rfl
  · split
    · rename_i h; rw [decide_eq_true h]; rfl
    · rename_i h; rw [decide_eq_false h]; rfl
theorem rational_Valid_s {a : GRat} {Q : Bool → Prop} (fa : Fr a) (h : Q (okR a)) : rational_Valid_W a Q := by
  obtain ⟨hn, hd, ln, ld⟩ := fa
  rw [okR_iff hn hd] at h
  refine ⟨fun x => x = decide (a.Num.length = 0 ∧ a.Den.length = 0), ?_, ?_⟩
  · refine condE (fun hc => ?_) (fun hc => ?_)
    · by_cases hd0 : a.Den.length = 0
      · rw [decide_eq_true ⟨by omega, hd0⟩]; simp; exact List.eq_nil_of_length_eq_zero hd0
      · rw [decide_eq_false (by omega)]; simp; intro hh; exact hd0 (by rw [hh]; rfl)
    · rw [decide_eq_false (by omega)]
  · rintro _ rfl
    refine condT (fun hc => ?_) (fun hc => ?_)
    · rw [if_pos hc] at h; exact h
    · rw [if_neg hc] at h
      refine rational_plain_s (by omega) (condB (fun hp => ?_) (fun hp => ?_))
      · rw [hp, Bool.true_and] at h
        refine rational_plain_s (by omega) (condB (fun hq => ?_) (fun hq => ?_))
        · rw [hq, Bool.true_and] at h
          refine natural_Gcd_s hn hd (by omega) (by omega) ?_
          have hgl : (lim (Nat.gcd (val a.Num) (val a.Den))).length ≤ 1099511627760 := by
            refine Nat.le_trans (lim_len_mono (Nat.gcd_le_left _ ?_)) (Nat.le_trans (lim_len_le hn) ln)
            have := (plain_val hn hp).2
            omega
          show natural_Cmp_W (lim (Nat.gcd (val a.Num) (val a.Den))) [1] (fun r4 => Q (r4 == 0))
          refine natural_Cmp_one (by omega) ?_
          rw [cmpv_eq0]
          exact h
        · rw [hq, Bool.false_and] at h; exact h
      · rw [hp, Bool.false_and] at h; exact h
theorem valR_bad {a : GRat} (h : okR a = false) : valR a = 0 := by rw [valR, h]; rfl
theorem parts_zero {a : GRat} (h : okR a = true → a.Num.length = 0) : valR a = 0 := by
  cases ho : okR a with
  | false => exact valR_bad ho
  | true =>
    have e := okR_eq ho
    have hl := h ho
    unfold ratOf at e
    split at e
    · rename_i hz; exact Rat.num_eq_zero.1 hz
    · rename_i hz
      rw [e] at hl
      have := len_lim_zero.1 (by rw [hl]; rfl)
      omega
theorem parts_some {a : GRat} (ho : okR a = true) (hl : a.Num.length ≠ 0) : (valR a).num ≠ 0 ∧ a = ⟨decide ((valR a).num < 0), lim (valR a).num.natAbs, lim (valR a).den⟩ := by
  have e := okR_eq ho
  by_cases hz : (valR a).num = 0
  · exfalso
    unfold ratOf at e
    rw [if_pos hz] at e
    rw [e] at hl
    exact hl rfl
  · refine ⟨hz, ?_⟩
    unfold ratOf at e
    rw [if_neg hz] at e
    exact e
theorem rational_parts_s {a : GRat} {Q : Bool → List Int → List Int → Prop} (fa : Fr a) (h : Q (decide ((valR a).num < 0)) (lim (valR a).num.natAbs) (lim (valR a).den)) : rational_parts_W a Q := by
  refine ⟨fun x => x = (!okR a || decide (a.Num.length = 0)), ?_, ?_⟩
  · refine rational_Valid_s fa (condB (fun hc => ?_) (fun hc => ?_))
    · rw [hc]; rfl
    · rw [hc, Bool.false_or]
      by_cases hl : a.Num.length = 0
      · rw [decide_eq_true hl]; simp; exact List.eq_nil_of_length_eq_zero hl
      · rw [decide_eq_false hl]; simp; intro hh; exact hl (by rw [hh]; rfl)
  · rintro _ rfl
    refine condB (fun hc => ?_) (fun hc => ?_)
    · have hz : valR a = 0 := parts_zero (fun ho => by rw [ho] at hc; simpa using hc)
      rw [hz] at h
      simp at h
      rw [lim_zero, lim_1] at h
      exact h
    · simp at hc
      obtain ⟨_, e⟩ := parts_some hc.1 (fun hl => hc.2 (List.eq_nil_of_length_eq_zero hl))
      rw [show a.Neg = decide ((valR a).num < 0) from by rw [e]; simp [← e], show a.Num = lim (valR a).num.natAbs from by rw [e]; simp [← e], show a.Den = lim (valR a).den from by rw [e]; simp [← e]]
      exact h

theorem RBlens {q : Rat} {k : Nat} (h : RB k q) : (lim q.num.natAbs).length ≤ k / 32 + 1 ∧ (lim q.den).length ≤ k / 32 + 1 := ⟨lim_len_bits h.1, lim_len_bits h.2⟩
theorem mulLens {m n k l : Nat} (h : m < 2 ^ k) (h' : n < 2 ^ l) : (lim (m * n)).length ≤ (k + l) / 32 + 1 := lim_len_bits (mul_lt_pow2 h h')
theorem addLens {m n k : Nat} (h : m < 2 ^ k) (h' : n < 2 ^ k) : (lim (m + n)).length ≤ (k + 1) / 32 + 1 := lim_len_bits (by rw [Nat.pow_succ]; omega)
/-- The sum over both denominators. -/
theorem add_frac (p q : Rat) : p + q = mkRat (sgn (decide (p.num < 0)) (p.num.natAbs * q.den) + sgn (decide (q.num < 0)) (q.num.natAbs * p.den)) (p.den * q.den) := by
  rw [sgn_mul, sgn_mul, sgn_self, sgn_self, Rat.add_def']
theorem mul_frac (p q : Rat) : p * q = mkRat (sgn (decide (p.num < 0) != decide (q.num < 0)) (p.num.natAbs * q.num.natAbs)) (p.den * q.den) := by
  rw [sgn_mul2, sgn_self, sgn_self, Rat.mul_def']
theorem inv_frac {q : Rat} (_h : q.num ≠ 0) : q⁻¹ = mkRat (sgn (decide (q.num < 0)) q.den) q.num.natAbs := by
  rw [Rat.inv_def]
  by_cases hn : q.num < 0
  · rw [decide_eq_true hn]
    have e : q.num = -((q.num.natAbs : Nat) : Int) := by omega
    rw [← Rat.divInt_ofNat]
    show Rat.divInt q.den q.num = Rat.divInt (-(q.den : Int)) _
    rw [← Rat.divInt_neg', ← e]
  · rw [decide_eq_false hn]
    have e : q.num = ((q.num.natAbs : Nat) : Int) := by omega
    rw [← Rat.divInt_ofNat]
    show Rat.divInt q.den q.num = Rat.divInt (q.den : Int) _
    rw [← e]
theorem div_frac (p : Rat) {q : Rat} (h : q.num ≠ 0) : p / q = mkRat (sgn (decide (p.num < 0) != decide (q.num < 0)) (p.num.natAbs * q.den)) (p.den * q.num.natAbs) := by
  rw [Rat.div_def, inv_frac h, sgn_mul2, sgn_self]
  have : p = mkRat p.num p.den := (Rat.mkRat_self p).symm
  rw [this, Rat.mkRat_mul_mkRat, ← this]
theorem neg_frac (p : Rat) : -p = mkRat (sgn (!decide (p.num < 0)) p.num.natAbs) p.den := by
  have e : sgn (!decide (p.num < 0)) p.num.natAbs = -p.num := by
    by_cases h : p.num < 0
    · rw [decide_eq_true h]; simp only [sgn, Bool.not_true, Bool.false_eq_true, if_false]; omega
    · rw [decide_eq_false h]; simp only [sgn, Bool.not_false, if_true]; omega
  rw [e, ← Rat.neg_mkRat, Rat.mkRat_self]

theorem rational_Add_s {a b : GRat} {k l : Nat} {Q : GRat → Prop} (fa : Fr a) (fb : Fr b) (ka : RB k (valR a)) (kb : RB l (valR b)) (hk : k + l + 1 ≤ 35184372088000) (h : Q (ratOf (valR a + valR b))) : rational_Add_W a b Q := by
  refine rational_parts_s fa (rational_parts_s fb ?_)
  generalize valR a = p at ka h ⊢
  generalize valR b = q at kb h ⊢
  have la := RBlens ka
  have lb := RBlens kb
  have l1 := mulLens ka.1 kb.2
  have l2 := mulLens kb.1 ka.2
  have l3 := mulLens ka.2 kb.2
  have hd : p.den * q.den ≠ 0 := Nat.mul_ne_zero p.den_nz q.den_nz
  refine natural_Mul_s (lim_words _) (lim_words _) (by omega) (natural_Mul_s (lim_words _) (lim_words _) (by omega) (natural_Mul_s (lim_words _) (lim_words _) (by omega) ?_))
  simp only [val_lim]
  rw [add_frac] at h
  refine condE (fun hs => ?_) (fun hs => ?_)
  · refine natural_Add_s (lim_words _) (lim_words _) (by unfold SM; omega) ⟨by omega, by omega⟩ ?_
    simp only [val_lim]
    have l4 : (lim (p.num.natAbs * q.den + q.num.natAbs * p.den)).length ≤ (k + l + 1) / 32 + 1 := addLens (mul_lt_pow2 ka.1 kb.2) (by rw [Nat.add_comm k]; exact mul_lt_pow2 kb.1 ka.2)
    refine rational_form_s (lim_words _) (lim_words _) (by omega) (by omega) (by rw [val_lim]; exact hd) ?_
    rw [val_lim, val_lim, sgn_add]
    rw [← hs] at h
    exact h
  · refine natural_Cmp_s (lim_words _) (lim_words _) (by unfold SM; omega) (by unfold SM; omega) ?_
    simp only [val_lim]
    refine condT (fun hc => ?_) (fun hc => ?_)
    · have hle : q.num.natAbs * p.den ≤ p.num.natAbs * q.den := by
        rcases Nat.lt_or_ge (p.num.natAbs * q.den) (q.num.natAbs * p.den) with h1 | h1
        · have := cmpv_lt.2 h1; omega
        · exact h1
      refine natural_Sub_s (lim_words _) (lim_words _) (by unfold SM; omega) (by unfold SM; omega) (fun hh => by rw [val_lim, val_lim] at hh; omega) (fun _ => ?_)
      simp only [val_lim]
      have l4 := lim_len_mono (Nat.sub_le (p.num.natAbs * q.den) (q.num.natAbs * p.den))
      refine rational_form_s (lim_words _) (lim_words _) (by omega) (by omega) (by rw [val_lim]; exact hd) ?_
      rw [val_lim, val_lim, sgn_sub hs hle]
      exact h
    · have hle : p.num.natAbs * q.den ≤ q.num.natAbs * p.den := by
        rcases Nat.lt_or_ge (p.num.natAbs * q.den) (q.num.natAbs * p.den) with h1 | h1
        · omega
        · exfalso
          apply hc
          unfold cmpv
          split
          · omega
          · split <;> omega
      refine natural_Sub_s (lim_words _) (lim_words _) (by unfold SM; omega) (by unfold SM; omega) (fun hh => by rw [val_lim, val_lim] at hh; omega) (fun _ => ?_)
      simp only [val_lim]
      have l4 := lim_len_mono (Nat.sub_le (q.num.natAbs * p.den) (p.num.natAbs * q.den))
      refine rational_form_s (lim_words _) (lim_words _) (by omega) (by omega) (by rw [val_lim]; exact hd) ?_
      rw [val_lim, val_lim, sgn_sub (fun e => hs e.symm) hle, Int.add_comm]
      exact h
theorem rational_Mul_s {a b : GRat} {k l : Nat} {Q : GRat → Prop} (fa : Fr a) (fb : Fr b) (ka : RB k (valR a)) (kb : RB l (valR b)) (hk : k + l + 1 ≤ 35184372088000) (h : Q (ratOf (valR a * valR b))) : rational_Mul_W a b Q := by
  refine rational_parts_s fa (rational_parts_s fb ?_)
  generalize valR a = p at ka h ⊢
  generalize valR b = q at kb h ⊢
  have la := RBlens ka
  have lb := RBlens kb
  have l1 := mulLens ka.1 kb.1
  have l3 := mulLens ka.2 kb.2
  have hd : p.den * q.den ≠ 0 := Nat.mul_ne_zero p.den_nz q.den_nz
  refine natural_Mul_s (lim_words _) (lim_words _) (by omega) (natural_Mul_s (lim_words _) (lim_words _) (by omega) ?_)
  simp only [val_lim]
  refine rational_form_s (lim_words _) (lim_words _) (by omega) (by omega) (by rw [val_lim]; exact hd) ?_
  rw [val_lim, val_lim, ← mul_frac]
  exact h
theorem rational_Div_s {a b : GRat} {k l : Nat} {Q : GRat → Option Int → Prop} (fa : Fr a) (fb : Fr b) (ka : RB k (valR a)) (kb : RB l (valR b)) (hk : k + l + 1 ≤ 35184372088000)
    (h0 : valR b = 0 → Q (ratOf 0) (some 8)) (h : valR b ≠ 0 → Q (ratOf (valR a / valR b)) none) : rational_Div_W a b Q := by
  refine rational_parts_s fa (rational_parts_s fb ?_)
  generalize valR a = p at ka h ⊢
  generalize valR b = q at kb h h0 ⊢
  have la := RBlens ka
  have lb := RBlens kb
  have l1 := mulLens ka.1 kb.2
  have l3 := mulLens ka.2 kb.1
  refine condE (fun hc => ?_) (fun hc => ?_)
  · rw [len_lim_zero] at hc
    exact h0 (Rat.num_eq_zero.1 (by omega))
  · have hq : q.num ≠ 0 := fun hh => hc (len_lim_zero.2 (by omega))
    have hd : p.den * q.num.natAbs ≠ 0 := Nat.mul_ne_zero p.den_nz (by omega)
    refine natural_Mul_s (lim_words _) (lim_words _) (by omega) (natural_Mul_s (lim_words _) (lim_words _) (by omega) ?_)
    simp only [val_lim]
    refine rational_form_s (lim_words _) (lim_words _) (by omega) (by omega) (by rw [val_lim]; exact hd) ?_
    rw [val_lim, val_lim, ← div_frac p hq]
    exact h (fun hh => hq (by rw [hh]; rfl))
theorem rational_Neg_s {a : GRat} {k : Nat} {Q : GRat → Prop} (fa : Fr a) (ka : RB k (valR a)) (hk : k ≤ 35184372088000) (h : Q (ratOf (-valR a))) : rational_Neg_W a Q := by
  refine rational_parts_s fa ?_
  generalize valR a = p at ka h ⊢
  have la := RBlens ka
  refine rational_form_s (lim_words _) (lim_words _) (by omega) (by omega) (by rw [val_lim]; exact p.den_nz) ?_
  rw [val_lim, val_lim, ← neg_frac]
  exact h
theorem rational_Sub_s {a b : GRat} {k l : Nat} {Q : GRat → Prop} (fa : Fr a) (fb : Fr b) (ka : RB k (valR a)) (kb : RB l (valR b)) (hk : k + l + 1 ≤ 35184372088000) (h : Q (ratOf (valR a - valR b))) : rational_Sub_W a b Q := by
  refine ⟨_, rational_Neg_s fb kb (by omega) rfl, _, rational_Add_s fa (Fr_ratOf (RB_neg kb) (by omega)) ka (by rw [valR_ratOf]; exact RB_neg kb) hk rfl, ?_⟩
  rw [valR_ratOf, ← Rat.sub_eq_add_neg]
  exact h
/-- The sign of a number. -/
def sgnR (q : Rat) : Int := if q.num = 0 then 0 else if q.num < 0 then -1 else 1
theorem rational_Sign_s {a : GRat} {Q : Int → Prop} (fa : Fr a) (h : Q (sgnR (valR a))) : rational_Sign_W a Q := by
  refine rational_parts_s fa ?_
  generalize valR a = p at h ⊢
  unfold sgnR at h
  refine condE (fun hc => ?_) (fun hc => ?_)
  · rw [len_lim_zero] at hc
    rw [if_pos (by omega)] at h; exact h
  · have hq : p.num ≠ 0 := fun hh => hc (len_lim_zero.2 (by omega))
    rw [if_neg hq] at h
    refine condT (fun hs => ?_) (fun hs => ?_)
    · rw [if_pos hs] at h; exact h
    · rw [if_neg hs] at h; exact h
theorem rational_Cmp_s {a b : GRat} {k l : Nat} {Q : Int → Prop} (fa : Fr a) (fb : Fr b) (ka : RB k (valR a)) (kb : RB l (valR b)) (hk : k + l + 1 ≤ 35184372088000) (h : Q (sgnR (valR a - valR b))) : rational_Cmp_W a b Q := by
  refine rational_Sub_s fa fb ka kb hk (rational_Sign_s (Fr_ratOf (RB_sub ka kb) hk) ?_)
  rw [valR_ratOf]
  exact h
theorem rational_size_s {n : Int} {Q : List Int → Prop} (hn : rng n) (h : Q (lim n.natAbs)) : rational_size_W n Q := by
  refine condE (fun hc => ?_) (fun hc => ?_)
  · subst hc
    have : lim (Int.natAbs (-9223372036854775808)) = [0, 2147483648] := by
      rw [show Int.natAbs (-9223372036854775808) = 9223372036854775808 from rfl, lim_pos (by omega), lim_pos (by omega)]
      simp [lim_zero]
    rw [this] at h
    exact h
  · unfold rng at hn ⊢
    refine ⟨by omega, natural_Of_s (by omega) ?_⟩
    have : (max n (-n)).toNat = n.natAbs := by omega
    rw [this]
    exact h
theorem rational_Of_s {n : Int} {Q : GRat → Prop} (hn : rng n) (h : Q (ratOf (n : Rat))) : rational_Of_W n Q := by
  refine rational_size_s hn ?_
  show rational_form_W _ _ [1] _
  have hl : (lim n.natAbs).length ≤ 64 / 32 + 1 := lim_len_bits (by unfold rng at hn; omega)
  refine rational_form_s (lim_words _) Words_one (by omega) (by simp) (by rw [val_one]; omega) ?_
  rw [val_lim, val_one, sgn_natAbs, show mkRat n 1 = (n : Rat) from Rat.mkRat_self (n : Rat)]
  exact h
end Go.Gg
namespace Go.Gg

theorem ref02_From_s {neg : Bool} {num den : List Int} {Q : GRat → Int → Prop} (hn : Words num) (hd : Words den) (ln : num.length ≤ 1099511627760) (ld : den.length ≤ 1099511627760)
    (h8 : val den = 0 → Q (ratOf 0) 8) (h : val den ≠ 0 → Q (ratOf (mkRat (sgn neg (val num)) (val den))) 0) : ref02_From_W neg num den Q := by
  refine ref01_Bits_s hd (by unfold SM; omega) (condE (fun hc => ?_) (fun hc => ?_))
  · exact h8 (blen_eq_zero.1 hc)
  have h0 : val den ≠ 0 := fun hh => hc (blen_eq_zero.2 hh)
  replace h := h h0
  refine ref01_Bits_s hn (by unfold SM; omega) (condE (fun hc => ?_) (fun hc => ?_))
  · rw [blen_eq_zero] at hc
    rw [hc, ratOf_mk0] at h
    exact h
  · have hn0 : val num ≠ 0 := fun hh => hc (blen_eq_zero.2 hh)
    rw [ratOf_mk hn0 h0] at h
    have hgp : Nat.gcd (val num) (val den) ≠ 0 := Nat.ne_of_gt (Nat.gcd_pos_of_pos_left _ (by omega))
    refine ref01_Gcd_s hn hd (by omega) (by omega) ?_
    have hgl : (lim (Nat.gcd (val num) (val den))).length ≤ 1099511627760 := by
      refine Nat.le_trans (lim_len_mono (Nat.gcd_le_left _ (by omega))) (Nat.le_trans (lim_len_le hn) ln)
    refine ref01_Div_s hn (lim_words _) (by omega) (by omega) (fun hh => absurd (by rwa [val_lim] at hh) hgp) (fun _ => ?_)
    refine ref01_Div_s hd (lim_words _) (by omega) (by omega) (fun hh => absurd (by rwa [val_lim] at hh) hgp) (fun _ => ?_)
    rw [val_lim]
    exact h
theorem ref02_From_s' {neg : Bool} {num den : List Int} {Q : GRat → Int → Prop} (hn : Words num) (hd : Words den) (ln : num.length ≤ 1099511627760) (ld : den.length ≤ 1099511627760)
    (h0 : val den ≠ 0) (h : Q (ratOf (mkRat (sgn neg (val num)) (val den))) 0) : ref02_From_W neg num den Q :=
  ref02_From_s hn hd ln ld (fun hh => absurd hh h0) (fun _ => h)
theorem blen_one {n : Nat} : ((blen n : Int) == 1) = decide (n = 1) := by
  have h : (blen n : Int) = 1 ↔ n = 1 := by
    constructor
    · intro h
      have a := blen_lt (n := n)
      rw [show blen n = 1 by omega] at a
      have : n ≠ 0 := by rintro rfl; rw [blen_zero] at h; omega
      omega
    · rintro rfl; rfl
  by_cases hn : n = 1
  · rw [decide_eq_true hn]; simpa using h.2 hn
  · rw [decide_eq_false hn]; simpa using fun e => hn (h.1 e)
theorem ref02_Valid_s {a : GRat} {Q : Bool → Prop} (fa : Fr a) (h : Q (okR a)) : ref02_Valid_W a Q := by
  obtain ⟨hn, hd, ln, ld⟩ := fa
  rw [okR_iff hn hd] at h
  have hpb : ∀ l : List Int, l.length ≠ 0 → l.length ≤ 1099511627760 → rng ((l.length : Int) - 1) ∧ ((0 : Int) ≤ ((l.length : Int) - 1) ∧ ((l.length : Int) - 1) < (l.length : Int)) ∧ plainB l = (at' l ((l.length : Int) - 1) != 0) := fun l hl hl2 => by
    have : (l.length : Int) - 1 = ((l.length - 1 : Nat) : Int) := by omega
    refine ⟨by unfold rng; omega, by omega, ?_⟩
    rw [this, at_nat]
    simp only [plainB]
    rw [decide_eq_true (by omega : 0 < l.length), Bool.true_and]
  have hpn : ∀ l : List Int, l.length = 0 → plainB l = false := fun l hl => by
    simp only [plainB]
    rw [decide_eq_false (by omega : ¬ 0 < l.length), Bool.false_and]
  refine ⟨fun x => x = decide (a.Num.length = 0 ∨ a.Den.length = 0), ?_, ?_⟩
  · refine condE (fun hc => ?_) (fun hc => ?_)
    · rw [decide_eq_true (by omega)]
    · by_cases hd0 : a.Den.length = 0
      · rw [decide_eq_true (by omega)]; simp; exact List.eq_nil_of_length_eq_zero hd0
      · rw [decide_eq_false (by omega)]; simp; intro hh; exact hd0 (by rw [hh]; rfl)
  · rintro _ rfl
    refine condT (fun hc => ?_) (fun hc => ?_)
    · refine condE (fun h1 => condE (fun h2 => ?_) (fun h2 => ?_)) (fun h1 => ?_)
      · rw [if_pos (by omega)] at h; exact h
      · rw [if_neg (by omega), hpn _ (by omega : a.Num.length = 0), Bool.false_and] at h; exact h
      · rw [if_neg (by omega), hpn a.Den (by omega), Bool.false_and, Bool.and_false] at h; exact h
    · obtain ⟨r1, r2, r3⟩ := hpb a.Num (by omega) ln
      obtain ⟨s1, s2, s3⟩ := hpb a.Den (by omega) ld
      rw [if_neg (by omega)] at h
      refine ⟨r1, r2, ?_⟩
      rw [← r3]
      refine condB (fun hp => ⟨s1, s2, ?_⟩) (fun hp => ?_)
      · rw [hp, Bool.true_and] at h
        rw [← s3]
        refine condB (fun hq => ?_) (fun hq => ?_)
        · rw [hq, Bool.true_and] at h
          refine ref01_Gcd_s hn hd (by omega) (by omega) ?_
          have hgl : (lim (Nat.gcd (val a.Num) (val a.Den))).length ≤ 1099511627760 := by
            refine Nat.le_trans (lim_len_mono (Nat.gcd_le_left _ ?_)) (Nat.le_trans (lim_len_le hn) ln)
            have := (plain_val hn hp).2
            omega
          refine ref01_Bits_s (lim_words _) (by unfold SM; omega) ?_
          rw [val_lim, blen_one]
          exact h
        · rw [hq, Bool.false_and] at h; exact h
      · rw [hp, Bool.false_and] at h; exact h
theorem ref02_Parts_s {a : GRat} {Q : Bool → List Int → List Int → Prop} (fa : Fr a) (h : Q (decide ((valR a).num < 0)) (lim (valR a).num.natAbs) (lim (valR a).den)) : ref02_Parts_W a Q := by
  refine ⟨fun x => x = (!okR a || decide (a.Num.length = 0)), ?_, ?_⟩
  · refine ref02_Valid_s fa (condB (fun hc => ?_) (fun hc => ?_))
    · rw [hc]; rfl
    · have hc : okR a = true := by simpa using hc
      rw [hc, Bool.not_true, Bool.false_or]
      by_cases hl : a.Num.length = 0
      · rw [decide_eq_true hl]; simp; exact List.eq_nil_of_length_eq_zero hl
      · rw [decide_eq_false hl]; simp; intro hh; exact hl (by rw [hh]; rfl)
  · rintro _ rfl
    refine condB (fun hc => ?_) (fun hc => ?_)
    · have hz : valR a = 0 := parts_zero (fun ho => by rw [ho] at hc; simpa using hc)
      rw [hz] at h
      simp at h
      rw [lim_zero, lim_1] at h
      exact h
    · simp at hc
      obtain ⟨_, e⟩ := parts_some hc.1 (fun hl => hc.2 (List.eq_nil_of_length_eq_zero hl))
      rw [show a.Neg = decide ((valR a).num < 0) from by rw [e]; simp [← e], show a.Num = lim (valR a).num.natAbs from by rw [e]; simp [← e], show a.Den = lim (valR a).den from by rw [e]; simp [← e]]
      exact h
theorem ref02_Add_s {a b : GRat} {k l : Nat} {Q : GRat → Prop} (fa : Fr a) (fb : Fr b) (ka : RB k (valR a)) (kb : RB l (valR b)) (hk : k + l + 1 ≤ 35184372088000) (h : Q (ratOf (valR a + valR b))) : ref02_Add_W a b Q := by
  refine ref02_Parts_s fa (ref02_Parts_s fb ?_)
  generalize valR a = p at ka h ⊢
  generalize valR b = q at kb h ⊢
  have la := RBlens ka
  have lb := RBlens kb
  have l1 := mulLens ka.1 kb.2
  have l2 := mulLens kb.1 ka.2
  have l3 := mulLens ka.2 kb.2
  have hd : p.den * q.den ≠ 0 := Nat.mul_ne_zero p.den_nz q.den_nz
  refine ref01_Mul_s (lim_words _) (lim_words _) (by omega) (ref01_Mul_s (lim_words _) (lim_words _) (by omega) (ref01_Mul_s (lim_words _) (lim_words _) (by omega) ?_))
  simp only [val_lim]
  rw [add_frac] at h
  refine condE (fun hs => ?_) (fun hs => ?_)
  · refine ref01_Add_s (lim_words _) (lim_words _) ⟨by omega, by omega⟩ ?_
    simp only [val_lim]
    have l4 : (lim (p.num.natAbs * q.den + q.num.natAbs * p.den)).length ≤ (k + l + 1) / 32 + 1 := addLens (mul_lt_pow2 ka.1 kb.2) (by rw [Nat.add_comm k]; exact mul_lt_pow2 kb.1 ka.2)
    refine ref02_From_s' (lim_words _) (lim_words _) (by omega) (by omega) (by rw [val_lim]; exact hd) ?_
    rw [val_lim, val_lim, sgn_add]
    rw [← hs] at h
    exact h
  · refine joinIn (ref01_Cmp_s (lim_words _) (lim_words _) (by unfold SM; omega) (by unfold SM; omega) ?_)
    simp only [val_lim]
    refine condT (fun hc => ?_) (fun hc => ?_)
    · have hlt : p.num.natAbs * q.den < q.num.natAbs * p.den := cmpv_lt.1 hc
      refine ref01_Sub_s (lim_words _) (lim_words _) (by unfold SM; omega) (by unfold SM; omega) (fun hh => by rw [val_lim, val_lim] at hh; omega) (fun _ => ?_)
      simp only [val_lim]
      have l4 := lim_len_mono (Nat.sub_le (q.num.natAbs * p.den) (p.num.natAbs * q.den))
      refine ref02_From_s' (lim_words _) (lim_words _) (by omega) (by omega) (by rw [val_lim]; exact hd) ?_
      rw [val_lim, val_lim, sgn_sub (fun e => hs e.symm) (by omega), Int.add_comm]
      exact h
    · have hle : q.num.natAbs * p.den ≤ p.num.natAbs * q.den := by
        rcases Nat.lt_or_ge (p.num.natAbs * q.den) (q.num.natAbs * p.den) with h1 | h1
        · exact absurd (cmpv_lt.2 h1) hc
        · exact h1
      refine ref01_Sub_s (lim_words _) (lim_words _) (by unfold SM; omega) (by unfold SM; omega) (fun hh => by rw [val_lim, val_lim] at hh; omega) (fun _ => ?_)
      simp only [val_lim]
      have l4 := lim_len_mono (Nat.sub_le (p.num.natAbs * q.den) (q.num.natAbs * p.den))
      refine ref02_From_s' (lim_words _) (lim_words _) (by omega) (by omega) (by rw [val_lim]; exact hd) ?_
      rw [val_lim, val_lim, sgn_sub hs hle]
      exact h
theorem ref02_Mul_s {a b : GRat} {k l : Nat} {Q : GRat → Prop} (fa : Fr a) (fb : Fr b) (ka : RB k (valR a)) (kb : RB l (valR b)) (hk : k + l + 1 ≤ 35184372088000) (h : Q (ratOf (valR a * valR b))) : ref02_Mul_W a b Q := by
  refine ref02_Parts_s fa (ref02_Parts_s fb ?_)
  generalize valR a = p at ka h ⊢
  generalize valR b = q at kb h ⊢
  have la := RBlens ka
  have lb := RBlens kb
  have l1 := mulLens ka.1 kb.1
  have l3 := mulLens ka.2 kb.2
  have hd : p.den * q.den ≠ 0 := Nat.mul_ne_zero p.den_nz q.den_nz
  refine ref01_Mul_s (lim_words _) (lim_words _) (by omega) (ref01_Mul_s (lim_words _) (lim_words _) (by omega) ?_)
  simp only [val_lim]
  refine ref02_From_s' (lim_words _) (lim_words _) (by omega) (by omega) (by rw [val_lim]; exact hd) ?_
  rw [val_lim, val_lim, ← mul_frac]
  exact h
theorem ref02_Div_s {a b : GRat} {k l : Nat} {Q : GRat → Int → Prop} (fa : Fr a) (fb : Fr b) (ka : RB k (valR a)) (kb : RB l (valR b)) (hk : k + l + 1 ≤ 35184372088000)
    (h0 : valR b = 0 → Q (ratOf 0) 8) (h : valR b ≠ 0 → Q (ratOf (valR a / valR b)) 0) : ref02_Div_W a b Q := by
  refine ref02_Parts_s fa (ref02_Parts_s fb ?_)
  generalize valR a = p at ka h ⊢
  generalize valR b = q at kb h h0 ⊢
  have la := RBlens ka
  have lb := RBlens kb
  have l1 := mulLens ka.1 kb.2
  have l3 := mulLens ka.2 kb.1
  refine ref01_Mul_s (lim_words _) (lim_words _) (by omega) (ref01_Mul_s (lim_words _) (lim_words _) (by omega) ?_)
  simp only [val_lim]
  refine ref02_From_s (lim_words _) (lim_words _) (by omega) (by omega) (fun hz => ?_) (fun hz => ?_)
  · rw [val_lim] at hz
    refine h0 (Rat.num_eq_zero.1 ?_)
    rcases Nat.mul_eq_zero.1 hz with hh | hh
    · exact absurd hh p.den_nz
    · omega
  · rw [val_lim] at hz
    have hq : q.num ≠ 0 := fun hh => hz (by rw [hh]; simp)
    rw [val_lim, val_lim, ← div_frac p hq]
    exact h (fun hh => hq (by rw [hh]; rfl))
theorem ref02_Neg_s {a : GRat} {k : Nat} {Q : GRat → Prop} (fa : Fr a) (ka : RB k (valR a)) (hk : k ≤ 35184372088000) (h : Q (ratOf (-valR a))) : ref02_Neg_W a Q := by
  refine ref02_Parts_s fa ?_
  generalize valR a = p at ka h ⊢
  have la := RBlens ka
  refine ref02_From_s' (lim_words _) (lim_words _) (by omega) (by omega) (by rw [val_lim]; exact p.den_nz) ?_
  rw [val_lim, val_lim, ← neg_frac]
  exact h
theorem ref02_Sub_s {a b : GRat} {k l : Nat} {Q : GRat → Prop} (fa : Fr a) (fb : Fr b) (ka : RB k (valR a)) (kb : RB l (valR b)) (hk : k + l + 1 ≤ 35184372088000) (h : Q (ratOf (valR a - valR b))) : ref02_Sub_W a b Q := by
  refine ⟨_, ref02_Neg_s fb kb (by omega) rfl, _, ref02_Add_s fa (Fr_ratOf (RB_neg kb) (by omega)) ka (by rw [valR_ratOf]; exact RB_neg kb) hk rfl, ?_⟩
  rw [valR_ratOf, ← Rat.sub_eq_add_neg]
  exact h
theorem ref02_Sign_s {a : GRat} {Q : Int → Prop} (fa : Fr a) (h : Q (sgnR (valR a))) : ref02_Sign_W a Q := by
  refine ref02_Parts_s fa ?_
  generalize valR a = p at h ⊢
  unfold sgnR at h
  refine condE (fun hc => ?_) (fun hc => ?_)
  · rw [len_lim_zero] at hc
    rw [if_pos (by omega)] at h; exact h
  · have hq : p.num ≠ 0 := fun hh => hc (len_lim_zero.2 (by omega))
    rw [if_neg hq] at h
    refine condT (fun hs => ?_) (fun hs => ?_)
    · rw [if_pos hs] at h; exact h
    · rw [if_neg hs] at h; exact h
theorem ref02_Cmp_s {a b : GRat} {k l : Nat} {Q : Int → Prop} (fa : Fr a) (fb : Fr b) (ka : RB k (valR a)) (kb : RB l (valR b)) (hk : k + l + 1 ≤ 35184372088000) (h : Q (sgnR (valR a - valR b))) : ref02_Cmp_W a b Q := by
  refine ref02_Sub_s fa fb ka kb hk (ref02_Sign_s (Fr_ratOf (RB_sub ka kb) hk) ?_)
  rw [valR_ratOf]
  exact h
theorem ref02_size_s {n : Int} {Q : List Int → Prop} (hn : rng n) (h : ∀ l, Words l → l.length = 2 → val l = n.natAbs → Q l) : ref02_size_W n Q := by
  unfold rng at hn
  refine joinIn ?_
  have key : ∀ u : Int, u = n.natAbs → Q [(IntKind.wrap .u32 u), (IntKind.wrap .u32 (u / 2 ^ (Int.toNat 32)))] := by
    intro u hu
    rw [wrap_u32, wrap_u32]
    have h32 : (2 : Int) ^ (Int.toNat 32) = 4294967296 := rfl
    rw [h32]
    have hw2 : Words [u / 4294967296 % 4294967296] := Words.one (by omega) (by omega)
    have hw : Words [u % 4294967296, u / 4294967296 % 4294967296] := by
      intro i
      match i with
      | 0 => simp; omega
      | 1 => simp; omega
      | i + 2 => simp
    refine h _ hw rfl ?_
    rw [val_cons hw, val_cons hw2, val_nil]
    omega
  refine condT (fun hc => letIn ?_) (fun hc => ?_)
  · rw [wrap_u64, wrap_u64]
    exact key _ (by omega)
  · rw [wrap_u64]
    exact key _ (by omega)
theorem ref02_Make_s {n d : Int} {Q : GRat → Int → Prop} (hn : rng n) (hd : rng d) (h0 : d = 0 → Q (ratOf 0) 8) (h : d ≠ 0 → Q (ratOf ((n : Rat) / (d : Rat))) 0) : ref02_Make_W n d Q := by
  refine ref02_size_s hn fun l1 w1 e1 v1 => ref02_size_s hd fun l2 w2 e2 v2 => ?_
  refine ref02_From_s w1 w2 (by omega) (by omega) (fun hz => ?_) (fun hz => ?_)
  · exact h0 (by omega)
  · rw [v1, v2]
    have hd0 : d ≠ 0 := by omega
    have e := div_frac (n : Rat) (q := (d : Rat)) (by simpa using hd0)
    simp only [Rat.num_intCast, Rat.den_intCast, Nat.mul_one, Nat.one_mul] at e
    have h2 := h hd0
    rw [e] at h2
    exact h2
theorem ref02_Of_s {n : Int} {Q : GRat → Prop} (hn : rng n) (h : Q (ratOf (n : Rat))) : ref02_Of_W n Q := by
  refine ref02_Make_s hn (by unfold rng; omega) (fun hh => absurd hh (by omega)) (fun _ => ?_)
  have : (n : Rat) / ((1 : Int) : Rat) = n := by
    rw [Rat.div_def]
    show (n : Rat) * (1 : Rat)⁻¹ = n
    rw [show (1 : Rat)⁻¹ = 1 from (Rat.mul_one _).symm.trans (Rat.inv_mul_cancel 1 (by decide)), Rat.mul_one]
  rw [this]
  exact h
end Go.Gg
namespace Go.Gg

theorem eq_by {α : Type} [Inhabited α] {l m : List α} (hl : l.length = m.length) (h : ∀ i : Nat, i < l.length → at' l (i : Int) = at' m (i : Int)) : l = m := by
  refine List.ext_getElem hl fun i h1 h2 => ?_
  have := h i h1
  simp only [at', Int.toNat_natCast, List.getD_eq_getElem?_getD, List.getElem?_eq_getElem h1, List.getElem?_eq_getElem h2, Option.getD_some] at this
  exact this
instance decGRat : DecidableEq GRat := fun _ _ => decidable_of_iff _ eqR_iff
theorem base_Words_s {a b : List Int} {Q : Bool → Prop} (la : a.length ≤ 1099511627776) (h : Q (decide (a = b))) : base_Words_W a b Q := by
  refine condN (fun hc => ?_) (fun hc => ?_)
  · rw [decide_eq_false (fun e => hc (by rw [e]))] at h; exact h
  · have hl : a.length = b.length := by omega
    refine ⟨fun x => ∃ i : Nat, x = i ∧ i ≤ a.length ∧ ∀ j : Nat, j < i → at' a (j : Int) = at' b (j : Int), fun x => a.length - x.toNat, ⟨0, rfl, by omega, fun j hj => absurd hj (by omega)⟩, ?_⟩
    rintro _ ⟨i, rfl, hi, hI⟩
    refine condT (fun hc => ⟨⟨by omega, hc⟩, ⟨by omega, by omega⟩, condN (fun hne => ?_) (fun he => ⟨by unfold rng; omega, ⟨i + 1, by omega, by omega, fun j hj => ?_⟩, by dsimp only; omega⟩)⟩) (fun hc => ?_)
    · rw [decide_eq_false (fun e => hne (by rw [e]))] at h; exact h
    · rcases Nat.lt_or_ge j i with h1 | h1
      · exact hI j h1
      · obtain rfl : j = i := by omega
        exact he
    · rw [decide_eq_true (eq_by hl (fun j hj => hI j (by omega)))] at h; exact h
theorem base_Rat_s {a b : GRat} {Q : Bool → Prop} (la : a.Num.length ≤ 1099511627776) (ld : a.Den.length ≤ 1099511627776) (h : Q (decide (a = b))) : base_Rat_W a b Q := by
  obtain ⟨n, x, y⟩ := a
  obtain ⟨n', x', y'⟩ := b
  refine condE (fun h1 => ?_) (fun h1 => ?_)
  · refine base_Words_s la (condT (fun h2 => ?_) (fun h2 => ?_))
    · refine base_Words_s ld ?_
      dsimp only at h1 h2 ⊢
      subst h1 h2
      by_cases h3 : y = y'
      · subst h3; rw [decide_eq_true rfl] at h ⊢; exact h
      · rw [decide_eq_false h3]; rw [decide_eq_false (fun e => h3 (by injection e))] at h; exact h
    · rw [decide_eq_false (fun e => h2 (by injection e))] at h; exact h
  · rw [decide_eq_false (fun e => h1 (by injection e))] at h; exact h
theorem base_Rats_s {a b : List GRat} {Q : Bool → Prop} (la : a.length ≤ 1099511627776) (hs : ∀ i : Nat, i < a.length → (at' a (i : Int)).Num.length ≤ 1099511627776 ∧ (at' a (i : Int)).Den.length ≤ 1099511627776)
    (h : Q (decide (a = b))) : base_Rats_W a b Q := by
  refine condN (fun hc => ?_) (fun hc => ?_)
  · rw [decide_eq_false (fun e => hc (by rw [e]))] at h; exact h
  · have hl : a.length = b.length := by omega
    refine ⟨fun x => ∃ i : Nat, x = i ∧ i ≤ a.length ∧ ∀ j : Nat, j < i → at' a (j : Int) = at' b (j : Int), fun x => a.length - x.toNat, ⟨0, rfl, by omega, fun j hj => absurd hj (by omega)⟩, ?_⟩
    rintro _ ⟨i, rfl, hi, hI⟩
    refine condT (fun hc => ⟨⟨by omega, hc⟩, ⟨by omega, by omega⟩, _, base_Rat_s (hs i (by omega)).1 (hs i (by omega)).2 rfl, condB (fun hne => ?_) (fun he => ⟨by unfold rng; omega, ⟨i + 1, by omega, by omega, fun j hj => ?_⟩, by dsimp only; omega⟩)⟩) (fun hc => ?_)
    · rw [Bool.not_eq_true', decide_eq_false_iff_not] at hne
      rw [decide_eq_false (fun e => hne (by rw [e]))] at h; exact h
    · rw [Bool.not_eq_false', decide_eq_true_iff] at he
      rcases Nat.lt_or_ge j i with h1 | h1
      · exact hI j h1
      · obtain rfl : j = i := by omega
        exact he
    · rw [decide_eq_true (eq_by hl (fun j hj => hI j (by omega)))] at h; exact h
theorem base_Rats_same {a : List GRat} {Q : Bool → Prop} (la : a.length ≤ 1099511627776) (hs : ∀ i : Nat, i < a.length → (at' a (i : Int)).Num.length ≤ 1099511627776 ∧ (at' a (i : Int)).Den.length ≤ 1099511627776)
    (h : Q true) : base_Rats_W a a Q := base_Rats_s la hs (by rw [decide_eq_true rfl]; exact h)
/-- An error's number as the program's error. -/
def errO (e : Int) : Option Int := if e = 0 then none else some e
theorem base_Num_s {e : Int} {Q : Int → Prop} (h : Q e) : base_Num_W (errO e) Q := by
  unfold errO
  by_cases he : e = 0
  · rw [if_pos he]; subst he; exact condB (fun _ => h) (fun hh => by cases hh)
  · rw [if_neg he]; exact condB (fun hh => by cases hh) (fun _ => condB (fun _ => h) (fun hh => by cases hh))
end Go.Gg
namespace Go.Gg

/-- A fraction of words with its value and its bound. -/
def Rp (k : Nat) (a : GRat) (q : Rat) : Prop := Fr a ∧ valR a = q ∧ RB k q
/-- A fraction of words. -/
def WrR (a : GRat) : Prop := Words a.Num ∧ Words a.Den
def WrL (l : List GRat) : Prop := ∀ i : Nat, i < l.length → WrR (at' l (i : Int))
abbrev cap : Nat := 35184372088000
theorem Rp.of {q : Rat} {k : Nat} (h : RB k q) (hk : k ≤ cap) : Rp k (ratOf q) q := ⟨Fr_ratOf h hk, valR_ratOf q, h⟩
theorem Rp.mono {a : GRat} {q : Rat} {k l : Nat} (h : Rp k a q) (hkl : k ≤ l) : Rp l a q := ⟨h.1, h.2.1, h.2.2.mono hkl⟩
theorem Rp.self {a : GRat} {k : Nat} (h : Fr a) (hb : RB k (valR a)) : Rp k a (valR a) := ⟨h, rfl, hb⟩
theorem Rp.fr {a : GRat} {q : Rat} {k : Nat} (h : Rp k a q) : Fr a := h.1
theorem Rp.len {a : GRat} {q : Rat} {k : Nat} (h : Rp k a q) : a.Num.length ≤ 1099511627776 ∧ a.Den.length ≤ 1099511627776 := ⟨Nat.le_trans h.1.2.2.1 (by omega), Nat.le_trans h.1.2.2.2 (by omega)⟩
theorem Rp.zero {k : Nat} (hk : 1 ≤ k) (hk2 : k ≤ cap) : Rp k (⟨false, [], []⟩ : GRat) 0 := .of (RB_zero k hk) hk2
theorem RB_of_int {n : Int} (hn : rng n) : RB 64 (n : Rat) := RB_int (by omega) (by unfold rng at hn; omega)
theorem sgnR_neg {q : Rat} : sgnR q < 0 ↔ q < 0 := by
  unfold sgnR
  have h1 : q.num < 0 ↔ q < 0 := by
    have := Rat.num_nonneg (q := q)
    rw [← Int.not_le, this, Rat.not_le]
  split
  · rename_i h; rw [h] at h1; simpa using h1
  · split
    · rename_i h; simpa using h1.1 h
    · rename_i h; simpa using fun hh => h (h1.2 hh)
theorem sgnR_eq {q : Rat} : sgnR q = 0 ↔ q = 0 := by
  unfold sgnR
  constructor
  · intro h
    split at h
    · rename_i h0; exact Rat.num_eq_zero.1 h0
    · split at h <;> omega
  · rintro rfl; rfl
theorem sgnR_nonneg {q : Rat} : 0 ≤ sgnR q ↔ 0 ≤ q := by rw [← Int.not_lt, sgnR_neg, Rat.not_lt]
theorem sgnR_pos {q : Rat} : 0 < sgnR q ↔ 0 < q := by
  have h1 := @sgnR_nonneg q
  have h2 := @sgnR_eq q
  constructor
  · intro h
    have h3 := h1.1 (by omega)
    rcases Rat.le_iff_lt_or_eq.1 h3 with h4 | h4
    · exact h4
    · have := h2.2 h4.symm; omega
  · intro h
    have h3 := h1.2 (Rat.le_of_lt h)
    have h4 : sgnR q ≠ 0 := fun e => by rw [h2.1 e] at h; exact Rat.lt_irrefl h
    omega
theorem sgnR_nonpos {q : Rat} : sgnR q ≤ 0 ↔ q ≤ 0 := by rw [← Int.not_lt, sgnR_pos, Rat.not_lt]
theorem sub_le_zero {p q : Rat} : p - q ≤ 0 ↔ p ≤ q := by constructor <;> intro h <;> grind
theorem sub_eq_zero {p q : Rat} : p - q = 0 ↔ p = q := by constructor <;> intro h <;> grind
theorem sub_pos' {p q : Rat} : 0 < p - q ↔ q < p := by constructor <;> intro h <;> grind

theorem add_p {a b : GRat} {p q : Rat} {k l : Nat} {Q : GRat → Prop} (ha : Rp k a p) (hb : Rp l b q) (hk : k + l + 1 ≤ cap) (h : Rp (k + l + 1) (ratOf (p + q)) (p + q) → Q (ratOf (p + q))) : rational_Add_W a b Q := by
  obtain ⟨fa, rfl, ka⟩ := ha
  obtain ⟨fb, rfl, kb⟩ := hb
  exact rational_Add_s fa fb ka kb hk (h (.of (RB_add ka kb) hk))
theorem add_pd {a b : GRat} {p q : Rat} {k l : Nat} {K : GRat → Prop} (ha : Rp k a p) (hb : Rp l b q) (hk : k + l + 1 ≤ cap) (h : Rp (k + l + 1) (ratOf (p + q)) (p + q) → K (ratOf (p + q))) : detW (rational_Add_W a b) K :=
  ⟨_, add_p ha hb hk (fun _ => rfl), h (.of (RB_add ha.2.2 hb.2.2) hk)⟩
theorem sub_p {a b : GRat} {p q : Rat} {k l : Nat} {Q : GRat → Prop} (ha : Rp k a p) (hb : Rp l b q) (hk : k + l + 1 ≤ cap) (h : Rp (k + l + 1) (ratOf (p - q)) (p - q) → Q (ratOf (p - q))) : rational_Sub_W a b Q := by
  obtain ⟨fa, rfl, ka⟩ := ha
  obtain ⟨fb, rfl, kb⟩ := hb
  exact rational_Sub_s fa fb ka kb hk (h (.of (RB_sub ka kb) hk))
theorem sub_pd {a b : GRat} {p q : Rat} {k l : Nat} {K : GRat → Prop} (ha : Rp k a p) (hb : Rp l b q) (hk : k + l + 1 ≤ cap) (h : Rp (k + l + 1) (ratOf (p - q)) (p - q) → K (ratOf (p - q))) : detW (rational_Sub_W a b) K :=
  ⟨_, sub_p ha hb hk (fun _ => rfl), h (.of (RB_sub ha.2.2 hb.2.2) hk)⟩
theorem mul_p {a b : GRat} {p q : Rat} {k l : Nat} {Q : GRat → Prop} (ha : Rp k a p) (hb : Rp l b q) (hk : k + l + 1 ≤ cap) (h : Rp (k + l) (ratOf (p * q)) (p * q) → Q (ratOf (p * q))) : rational_Mul_W a b Q := by
  obtain ⟨fa, rfl, ka⟩ := ha
  obtain ⟨fb, rfl, kb⟩ := hb
  exact rational_Mul_s fa fb ka kb hk (h (.of (RB_mul ka kb) (by simp only [cap] at hk ⊢; omega)))
theorem mul_pd {a b : GRat} {p q : Rat} {k l : Nat} {K : GRat → Prop} (ha : Rp k a p) (hb : Rp l b q) (hk : k + l + 1 ≤ cap) (h : Rp (k + l) (ratOf (p * q)) (p * q) → K (ratOf (p * q))) : detW (rational_Mul_W a b) K :=
  ⟨_, mul_p ha hb hk (fun _ => rfl), h (.of (RB_mul ha.2.2 hb.2.2) (by simp only [cap] at hk ⊢; omega))⟩
theorem div_p {a b : GRat} {p q : Rat} {k l : Nat} {Q : GRat → Option Int → Prop} (ha : Rp k a p) (hb : Rp l b q) (hk : k + l + 1 ≤ cap) (h0 : q = 0 → Q (ratOf 0) (some 8)) (h : q ≠ 0 → Rp (k + l) (ratOf (p / q)) (p / q) → Q (ratOf (p / q)) none) : rational_Div_W a b Q := by
  obtain ⟨fa, rfl, ka⟩ := ha
  obtain ⟨fb, rfl, kb⟩ := hb
  exact rational_Div_s fa fb ka kb hk h0 (fun hn => h hn (.of (RB_div ka kb) (by simp only [cap] at hk ⊢; omega)))
theorem div_pd {a b : GRat} {p q : Rat} {k l : Nat} {K : GRat → Option Int → Prop} (ha : Rp k a p) (hb : Rp l b q) (hk : k + l + 1 ≤ cap) (hq : q ≠ 0) (h : Rp (k + l) (ratOf (p / q)) (p / q) → K (ratOf (p / q)) none) : detW2 (rational_Div_W a b) K :=
  ⟨_, _, div_p ha hb hk (fun e => absurd e hq) (fun _ _ => ⟨rfl, rfl⟩), h (.of (RB_div ha.2.2 hb.2.2) (by simp only [cap] at hk ⊢; omega))⟩
theorem sign_p {a : GRat} {p : Rat} {k : Nat} {Q : Int → Prop} (ha : Rp k a p) (h : Q (sgnR p)) : rational_Sign_W a Q := by
  obtain ⟨fa, rfl, ka⟩ := ha
  exact rational_Sign_s fa h
theorem sign_pd {a : GRat} {p : Rat} {k : Nat} {K : Int → Prop} (ha : Rp k a p) (h : K (sgnR p)) : detW (rational_Sign_W a) K := ⟨_, sign_p ha rfl, h⟩
theorem cmp_p {a b : GRat} {p q : Rat} {k l : Nat} {Q : Int → Prop} (ha : Rp k a p) (hb : Rp l b q) (hk : k + l + 1 ≤ cap) (h : Q (sgnR (p - q))) : rational_Cmp_W a b Q := by
  obtain ⟨fa, rfl, ka⟩ := ha
  obtain ⟨fb, rfl, kb⟩ := hb
  exact rational_Cmp_s fa fb ka kb hk h
theorem cmp_pd {a b : GRat} {p q : Rat} {k l : Nat} {K : Int → Prop} (ha : Rp k a p) (hb : Rp l b q) (hk : k + l + 1 ≤ cap) (h : K (sgnR (p - q))) : detW (rational_Cmp_W a b) K := ⟨_, cmp_p ha hb hk rfl, h⟩
theorem of_p {n : Int} {Q : GRat → Prop} (hn : rng n) (h : Rp 64 (ratOf (n : Rat)) (n : Rat) → Q (ratOf (n : Rat))) : rational_Of_W n Q := rational_Of_s hn (h (.of (RB_of_int hn) (by decide)))
theorem of_pd {n : Int} {K : GRat → Prop} (hn : rng n) (h : Rp 64 (ratOf (n : Rat)) (n : Rat) → K (ratOf (n : Rat))) : detW (rational_Of_W n) K := ⟨_, rational_Of_s hn rfl, h (.of (RB_of_int hn) (by decide))⟩
theorem valid_pd {a : GRat} {K : Bool → Prop} (fa : Fr a) (h : K (okR a)) : detW (rational_Valid_W a) K := ⟨_, rational_Valid_s fa rfl, h⟩
theorem add_q {a b : GRat} {p q : Rat} {k l : Nat} {Q : GRat → Prop} (ha : Rp k a p) (hb : Rp l b q) (hk : k + l + 1 ≤ cap) (h : Rp (k + l + 1) (ratOf (p + q)) (p + q) → Q (ratOf (p + q))) : ref02_Add_W a b Q := by
  obtain ⟨fa, rfl, ka⟩ := ha
  obtain ⟨fb, rfl, kb⟩ := hb
  exact ref02_Add_s fa fb ka kb hk (h (.of (RB_add ka kb) hk))
theorem add_qd {a b : GRat} {p q : Rat} {k l : Nat} {K : GRat → Prop} (ha : Rp k a p) (hb : Rp l b q) (hk : k + l + 1 ≤ cap) (h : Rp (k + l + 1) (ratOf (p + q)) (p + q) → K (ratOf (p + q))) : detW (ref02_Add_W a b) K :=
  ⟨_, add_q ha hb hk (fun _ => rfl), h (.of (RB_add ha.2.2 hb.2.2) hk)⟩
theorem sub_q {a b : GRat} {p q : Rat} {k l : Nat} {Q : GRat → Prop} (ha : Rp k a p) (hb : Rp l b q) (hk : k + l + 1 ≤ cap) (h : Rp (k + l + 1) (ratOf (p - q)) (p - q) → Q (ratOf (p - q))) : ref02_Sub_W a b Q := by
  obtain ⟨fa, rfl, ka⟩ := ha
  obtain ⟨fb, rfl, kb⟩ := hb
  exact ref02_Sub_s fa fb ka kb hk (h (.of (RB_sub ka kb) hk))
theorem sub_qd {a b : GRat} {p q : Rat} {k l : Nat} {K : GRat → Prop} (ha : Rp k a p) (hb : Rp l b q) (hk : k + l + 1 ≤ cap) (h : Rp (k + l + 1) (ratOf (p - q)) (p - q) → K (ratOf (p - q))) : detW (ref02_Sub_W a b) K :=
  ⟨_, sub_q ha hb hk (fun _ => rfl), h (.of (RB_sub ha.2.2 hb.2.2) hk)⟩
theorem mul_q {a b : GRat} {p q : Rat} {k l : Nat} {Q : GRat → Prop} (ha : Rp k a p) (hb : Rp l b q) (hk : k + l + 1 ≤ cap) (h : Rp (k + l) (ratOf (p * q)) (p * q) → Q (ratOf (p * q))) : ref02_Mul_W a b Q := by
  obtain ⟨fa, rfl, ka⟩ := ha
  obtain ⟨fb, rfl, kb⟩ := hb
  exact ref02_Mul_s fa fb ka kb hk (h (.of (RB_mul ka kb) (by simp only [cap] at hk ⊢; omega)))
theorem mul_qd {a b : GRat} {p q : Rat} {k l : Nat} {K : GRat → Prop} (ha : Rp k a p) (hb : Rp l b q) (hk : k + l + 1 ≤ cap) (h : Rp (k + l) (ratOf (p * q)) (p * q) → K (ratOf (p * q))) : detW (ref02_Mul_W a b) K :=
  ⟨_, mul_q ha hb hk (fun _ => rfl), h (.of (RB_mul ha.2.2 hb.2.2) (by simp only [cap] at hk ⊢; omega))⟩
theorem div_q {a b : GRat} {p q : Rat} {k l : Nat} {Q : GRat → Int → Prop} (ha : Rp k a p) (hb : Rp l b q) (hk : k + l + 1 ≤ cap) (h0 : q = 0 → Q (ratOf 0) (8)) (h : q ≠ 0 → Rp (k + l) (ratOf (p / q)) (p / q) → Q (ratOf (p / q)) 0) : ref02_Div_W a b Q := by
  obtain ⟨fa, rfl, ka⟩ := ha
  obtain ⟨fb, rfl, kb⟩ := hb
  exact ref02_Div_s fa fb ka kb hk h0 (fun hn => h hn (.of (RB_div ka kb) (by simp only [cap] at hk ⊢; omega)))
theorem div_qd {a b : GRat} {p q : Rat} {k l : Nat} {K : GRat → Int → Prop} (ha : Rp k a p) (hb : Rp l b q) (hk : k + l + 1 ≤ cap) (hq : q ≠ 0) (h : Rp (k + l) (ratOf (p / q)) (p / q) → K (ratOf (p / q)) 0) : detW2 (ref02_Div_W a b) K :=
  ⟨_, _, div_q ha hb hk (fun e => absurd e hq) (fun _ _ => ⟨rfl, rfl⟩), h (.of (RB_div ha.2.2 hb.2.2) (by simp only [cap] at hk ⊢; omega))⟩
theorem sign_q {a : GRat} {p : Rat} {k : Nat} {Q : Int → Prop} (ha : Rp k a p) (h : Q (sgnR p)) : ref02_Sign_W a Q := by
  obtain ⟨fa, rfl, ka⟩ := ha
  exact ref02_Sign_s fa h
theorem sign_qd {a : GRat} {p : Rat} {k : Nat} {K : Int → Prop} (ha : Rp k a p) (h : K (sgnR p)) : detW (ref02_Sign_W a) K := ⟨_, sign_q ha rfl, h⟩
theorem cmp_q {a b : GRat} {p q : Rat} {k l : Nat} {Q : Int → Prop} (ha : Rp k a p) (hb : Rp l b q) (hk : k + l + 1 ≤ cap) (h : Q (sgnR (p - q))) : ref02_Cmp_W a b Q := by
  obtain ⟨fa, rfl, ka⟩ := ha
  obtain ⟨fb, rfl, kb⟩ := hb
  exact ref02_Cmp_s fa fb ka kb hk h
theorem cmp_qd {a b : GRat} {p q : Rat} {k l : Nat} {K : Int → Prop} (ha : Rp k a p) (hb : Rp l b q) (hk : k + l + 1 ≤ cap) (h : K (sgnR (p - q))) : detW (ref02_Cmp_W a b) K := ⟨_, cmp_q ha hb hk rfl, h⟩
theorem of_q {n : Int} {Q : GRat → Prop} (hn : rng n) (h : Rp 64 (ratOf (n : Rat)) (n : Rat) → Q (ratOf (n : Rat))) : ref02_Of_W n Q := ref02_Of_s hn (h (.of (RB_of_int hn) (by decide)))
theorem of_qd {n : Int} {K : GRat → Prop} (hn : rng n) (h : Rp 64 (ratOf (n : Rat)) (n : Rat) → K (ratOf (n : Rat))) : detW (ref02_Of_W n) K := ⟨_, ref02_Of_s hn rfl, h (.of (RB_of_int hn) (by decide))⟩
theorem valid_qd {a : GRat} {K : Bool → Prop} (fa : Fr a) (h : K (okR a)) : detW (ref02_Valid_W a) K := ⟨_, ref02_Valid_s fa rfl, h⟩
/-- The fraction is a probability. -/
def probB (a : GRat) : Bool := okR a && (decide (0 ≤ valR a) && decide (valR a ≤ 1))
theorem le_one_iff {q : Rat} : q ≤ 1 ↔ q.num ≤ (q.den : Int) := by
  rw [Rat.le_iff]
  simp
theorem rational_Prob_s {a : GRat} {Q : Bool → Prop} (fa : Fr a) (h : Q (probB a)) : rational_Prob_W a Q := by
  refine rational_Valid_s fa (condB (fun hc => ?_) (fun hc => ?_))
  · unfold probB at h
    rw [hc, Bool.true_and] at h
    have e := okR_eq hc
    generalize valR a = q at e h
    subst e
    by_cases hz : q.num = 0
    · have hq : q = 0 := Rat.num_eq_zero.1 hz
      subst hq
      refine condB (fun _ => natural_Cmp_s (a := []) (b := []) (fun i => by simp) (fun i => by simp) (by simp) (by simp) ?_) (fun hh => by cases hh)
      exact h
    · have e2 : ratOf q = ⟨decide (q.num < 0), lim q.num.natAbs, lim q.den⟩ := by unfold ratOf; rw [if_neg hz]
      rw [e2] at fa ⊢
      refine condB (fun hn => ?_) (fun hn => ?_)
      · simp only [Bool.not_eq_true', decide_eq_false_iff_not] at hn
        refine natural_Cmp_s fa.1 fa.2.1 (Nat.le_trans fa.2.2.1 (by omega)) (Nat.le_trans fa.2.2.2 (by omega)) ?_
        have e3 : (decide (0 ≤ q) && decide (q ≤ 1)) = decide (cmpv (val (lim q.num.natAbs)) (val (lim q.den)) ≤ 0) := by
          rw [val_lim, val_lim, decide_eq_true (Rat.num_nonneg.1 (by omega)), Bool.true_and]
          refine decide_eq_decide.2 ?_
          rw [le_one_iff]
          have := @cmpv_gt q.num.natAbs q.den
          omega
        rw [e3] at h
        exact h
      · simp only [Bool.not_eq_false', decide_eq_true_eq] at hn
        rw [decide_eq_false (fun hh => by have := Rat.num_nonneg.2 hh; omega), Bool.false_and] at h
        exact h
  · unfold probB at h
    rw [hc, Bool.false_and] at h
    exact h
theorem ref02_Prob_s {a : GRat} {k : Nat} {Q : Bool → Prop} (fa : Fr a) (ka : RB k (valR a)) (hk : k + 65 ≤ cap) (h : Q (probB a)) : ref02_Prob_W a Q := by
  unfold probB at h
  refine valid_qd fa (condB (fun hc => ?_) (fun hc => ?_))
  · rw [hc, Bool.true_and] at h
    refine sign_qd (.self fa ka) (condT (fun h0 => ?_) (fun h0 => ?_))
    · rw [decide_eq_true (sgnR_nonneg.1 h0), Bool.true_and] at h
      refine of_qd (by unfold rng; omega) fun h1 => cmp_qd (.self fa ka) h1 (by simp only [cap] at hk ⊢; omega) ?_
      have e : decide (sgnR (valR a - ((1 : Int) : Rat)) ≤ 0) = decide (valR a ≤ 1) := decide_eq_decide.2 (by rw [sgnR_nonpos]; exact sub_le_zero)
      rw [e]; exact h
    · rw [decide_eq_false (fun hh => h0 (sgnR_nonneg.2 hh)), Bool.false_and] at h
      exact h
  · rw [hc, Bool.false_and] at h
    exact h
theorem prob_pd {a : GRat} {K : Bool → Prop} (fa : Fr a) (h : K (probB a)) : detW (rational_Prob_W a) K := ⟨_, rational_Prob_s fa rfl, h⟩
end Go.Gg
namespace Go.Gg

/-- A sum from the left. -/
def sumTo (f : Nat → Rat) : Nat → Rat
  | 0 => 0
  | n + 1 => sumTo f n + f n
theorem sumTo_congr {f g : Nat → Rat} : ∀ n, (∀ i, i < n → f i = g i) → sumTo f n = sumTo g n
  | 0, _ => rfl
  | n + 1, h => by rw [sumTo, sumTo, sumTo_congr n (fun i hi => h i (by omega)), h n (by omega)]
theorem sumTo_add {f : Nat → Rat} {a : Nat} : ∀ b, sumTo f (a + b) = sumTo f a + sumTo (fun i => f (a + i)) b
  | 0 => by rw [Nat.add_zero, sumTo, Rat.add_zero]
  | b + 1 => by rw [← Nat.add_assoc, sumTo, sumTo, sumTo_add b, Rat.add_assoc]
theorem sumTo_mul {f : Nat → Rat} {c : Rat} : ∀ n, sumTo (fun i => f i * c) n = sumTo f n * c
  | 0 => by rw [sumTo, sumTo, Rat.zero_mul]
  | n + 1 => by rw [sumTo, sumTo, sumTo_mul n, Rat.add_mul]
theorem sumTo_zero {f : Nat → Rat} : ∀ n, (∀ i, i < n → f i = 0) → sumTo f n = 0
  | 0, _ => rfl
  | n + 1, h => by rw [sumTo, sumTo_zero n (fun i hi => h i (by omega)), h n (by omega), Rat.zero_add]
theorem sumTo_RB {f : Nat → Rat} {B : Nat} : ∀ n, (∀ i, i < n → RB B (f i)) → RB (n * (B + 1) + 1) (sumTo f n)
  | 0, _ => RB_zero _ (by omega)
  | n + 1, h => (RB_add (sumTo_RB n (fun i hi => h i (by omega))) (h n (by omega))).mono (by rw [Nat.add_mul]; omega)
end Go.Gg
