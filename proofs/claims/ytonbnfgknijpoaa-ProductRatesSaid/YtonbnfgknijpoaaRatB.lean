/- The program's fractions: what its functions return. Conditions: the numbers fit the machine. -/
import Derived.Test.YtonbnfgknijpoaaRatA
namespace Go.Gg

/-- A fraction whose words are words, and not too many. -/
def Fr (a : GRat) : Prop := Words a.Num ∧ Words a.Den ∧ a.Num.length ≤ 1099511627760 ∧ a.Den.length ≤ 1099511627760
theorem Fr_ratOf {q : Rat} {k : Nat} (h : RB k q) (hk : k ≤ 35184372088000) : Fr (ratOf q) := by
  unfold ratOf
  split
  · exact ⟨Words.nil, Words.nil, by simp, by simp⟩
  · have h1 := lim_len_bits h.1
    have h2 := lim_len_bits h.2
    exact ⟨lim_words _, lim_words _, by dsimp only; omega, by dsimp only; omega⟩
theorem len_lim_zero {n : Nat} : ((lim n).length : Int) = 0 ↔ n = 0 := by
  constructor
  · intro h
    rcases Nat.eq_zero_or_pos n with h0 | h0
    · exact h0
    · rw [lim_pos h0] at h; simp at h; omega
  · rintro rfl; rw [lim_zero]; rfl
theorem blen_eq_zero {n : Nat} : (blen n : Int) = 0 ↔ n = 0 := by
  unfold blen
  split <;> omega
theorem sgn_mul {b : Bool} {m n : Nat} : sgn b (m * n) = sgn b m * (n : Int) := by
  cases b <;> simp [sgn, Int.natCast_mul, Int.neg_mul]
theorem sgn_mul2 {b c : Bool} {m n : Nat} : sgn (b != c) (m * n) = sgn b m * sgn c n := by
  cases b <;> cases c <;> simp [sgn, Int.natCast_mul, Int.neg_mul, Int.mul_neg, Int.neg_neg]
theorem sgn_add {b : Bool} {m n : Nat} : sgn b (m + n) = sgn b m + sgn b n := by
  cases b <;> simp only [sgn, Bool.false_eq_true, if_false, if_true] <;> omega
theorem sgn_sub {b c : Bool} {m n : Nat} (hbc : ¬ b = c) (h : n ≤ m) : sgn b (m - n) = sgn b m + sgn c n := by
  cases b <;> cases c <;> first | exact absurd rfl hbc | (simp only [sgn, Bool.false_eq_true, if_false, if_true]; omega)
theorem sgn_self (q : Rat) : sgn (decide (q.num < 0)) q.num.natAbs = q.num := sgn_natAbs
theorem val_lit {n : Nat} (h : n < 4294967296) : val [(n : Int)] = n := lim_one h
theorem val_one : val [1] = 1 := lim_one (g := 1) (by omega)
theorem lim_1 : lim 1 = [1] := by rw [lim_pos (by omega)]; simp [lim_zero]
theorem Words_one : Words [1] := Words.one (by omega) (by omega)

theorem rational_form_s {neg : Bool} {num den : List Int} {Q : GRat → Prop} (hn : Words num) (hd : Words den) (ln : num.length ≤ 1099511627760) (ld : den.length ≤ 1099511627760)
    (h0 : val den ≠ 0) (h : Q (ratOf (mkRat (sgn neg (val num)) (val den)))) : rational_form_W neg num den Q := by
  refine natural_Bits_s hn (by unfold SM; omega) (condE (fun hc => ?_) (fun hc => ?_))
  · rw [blen_eq_zero] at hc
    rw [hc, ratOf_mk0] at h
    exact h
  · have hn0 : val num ≠ 0 := fun hh => hc (blen_eq_zero.2 hh)
    rw [ratOf_mk hn0 h0] at h
    have hgp : Nat.gcd (val num) (val den) ≠ 0 := Nat.ne_of_gt (Nat.gcd_pos_of_pos_left _ (by omega))
    refine natural_Gcd_s hn hd (by omega) (by omega) ?_
    have hgl : (lim (Nat.gcd (val num) (val den))).length ≤ 1099511627760 := by
      refine Nat.le_trans (lim_len_mono (Nat.gcd_le_left _ (by omega))) (Nat.le_trans (lim_len_le hn) ln)
    refine natural_Div_s hn (lim_words _) (by omega) (by omega) (fun hh => absurd (by rwa [val_lim] at hh) hgp) (fun _ => ?_)
    refine natural_Div_s hd (lim_words _) (by omega) (by omega) (fun hh => absurd (by rwa [val_lim] at hh) hgp) (fun _ => ?_)
    rw [val_lim]
    exact h
theorem rational_plain_s {a : List Int} {Q : Bool → Prop} (la : a.length ≤ 1099511627776) (h : Q (plainB a)) : rational_plain_W a Q := by
  refine condT (fun hc => ⟨by unfold rng; omega, by omega, ?_⟩) (fun hc => ?_)
  · have e : plainB a = (at' a ((a.length : Int) - 1) != 0) := by
      have : (a.length : Int) - 1 = ((a.length - 1 : Nat) : Int) := by omega
      rw [this, at_nat]
      simp only [plainB]
      rw [decide_eq_true (by omega : 0 < a.length), Bool.true_and]
    rw [← e]; exact h
  · have e : plainB a = false := by
      simp only [plainB]
      rw [decide_eq_false (by omega : ¬ 0 < a.length), Bool.false_and]
    rw [e] at h; exact h
theorem condB {b : Bool} {p q : Prop} (h1 : b = true → p) (h2 : b = false → q) : condW b p q := ⟨h1, h2⟩
theorem natural_Cmp_one {n : Nat} {Q : Int → Prop} (hl : (lim n).length ≤ 1099511627776) (h : Q (cmpv n 1)) : natural_Cmp_W (lim n) [1] Q := by
  refine natural_Cmp_s (lim_words _) Words_one (by unfold SM; omega) (by unfold SM; simp) ?_
  rw [val_lim, val_one]
  exact h
theorem cmpv_eq0 {m n : Nat} : (cmpv m n == 0) = decide (m = n) := by
  unfold cmpv
  split
  · rw [decide_eq_false (by omega)]; rfl
  · split
    · rename_i h; rw [decide_eq_true h]; rfl
    · rename_i h; rw [decide_eq_false h]; rfl
theorem rational_Valid_s {a : GRat} {Q : Bool → Prop} (fa : Fr a) (h : Q (okR a)) : rational_Valid_W a Q := by
  obtain ⟨hn, hd, ln, ld⟩ := fa
  rw [okR_iff hn hd] at h
  refine ⟨fun x => x = decide (a.Num.length = 0 ∧ a.Den.length = 0), ?_, ?_⟩
  · refine condE (fun hc => ?_) (fun hc => ?_)
    · by_cases hd0 : a.Den.length = 0
      · rw [decide_eq_true ⟨by omega, hd0⟩]; simp; exact List.eq_nil_of_length_eq_zero hd0
      · rw [decide_eq_false (by omega)]; simp; intro hh; exact hd0 (by rw [hh]; rfl)
    · rw [decide_eq_false (by omega)]
  · rintro _ rfl
    refine condT (fun hc => ?_) (fun hc => ?_)
    · rw [if_pos hc] at h; exact h
    · rw [if_neg hc] at h
      refine rational_plain_s (by omega) (condB (fun hp => ?_) (fun hp => ?_))
      · rw [hp, Bool.true_and] at h
        refine rational_plain_s (by omega) (condB (fun hq => ?_) (fun hq => ?_))
        · rw [hq, Bool.true_and] at h
          refine natural_Gcd_s hn hd (by omega) (by omega) ?_
          have hgl : (lim (Nat.gcd (val a.Num) (val a.Den))).length ≤ 1099511627760 := by
            refine Nat.le_trans (lim_len_mono (Nat.gcd_le_left _ ?_)) (Nat.le_trans (lim_len_le hn) ln)
            have := (plain_val hn hp).2
            omega
          show natural_Cmp_W (lim (Nat.gcd (val a.Num) (val a.Den))) [1] (fun r4 => Q (r4 == 0))
          refine natural_Cmp_one (by omega) ?_
          rw [cmpv_eq0]
          exact h
        · rw [hq, Bool.false_and] at h; exact h
      · rw [hp, Bool.false_and] at h; exact h
theorem valR_bad {a : GRat} (h : okR a = false) : valR a = 0 := by rw [valR, h]; rfl
theorem parts_zero {a : GRat} (h : okR a = true → a.Num.length = 0) : valR a = 0 := by
  cases ho : okR a with
  | false => exact valR_bad ho
  | true =>
    have e := okR_eq ho
    have hl := h ho
    unfold ratOf at e
    split at e
    · rename_i hz; exact Rat.num_eq_zero.1 hz
    · rename_i hz
      rw [e] at hl
      have := len_lim_zero.1 (by rw [hl]; rfl)
      omega
theorem parts_some {a : GRat} (ho : okR a = true) (hl : a.Num.length ≠ 0) : (valR a).num ≠ 0 ∧ a = ⟨decide ((valR a).num < 0), lim (valR a).num.natAbs, lim (valR a).den⟩ := by
  have e := okR_eq ho
  by_cases hz : (valR a).num = 0
  · exfalso
    unfold ratOf at e
    rw [if_pos hz] at e
    rw [e] at hl
    exact hl rfl
  · refine ⟨hz, ?_⟩
    unfold ratOf at e
    rw [if_neg hz] at e
    exact e
theorem rational_parts_s {a : GRat} {Q : Bool → List Int → List Int → Prop} (fa : Fr a) (h : Q (decide ((valR a).num < 0)) (lim (valR a).num.natAbs) (lim (valR a).den)) : rational_parts_W a Q := by
  refine ⟨fun x => x = (!okR a || decide (a.Num.length = 0)), ?_, ?_⟩
  · refine rational_Valid_s fa (condB (fun hc => ?_) (fun hc => ?_))
    · rw [hc]; rfl
    · rw [hc, Bool.false_or]
      by_cases hl : a.Num.length = 0
      · rw [decide_eq_true hl]; simp; exact List.eq_nil_of_length_eq_zero hl
      · rw [decide_eq_false hl]; simp; intro hh; exact hl (by rw [hh]; rfl)
  · rintro _ rfl
    refine condB (fun hc => ?_) (fun hc => ?_)
    · have hz : valR a = 0 := parts_zero (fun ho => by rw [ho] at hc; simpa using hc)
      rw [hz] at h
      simp at h
      rw [lim_zero, lim_1] at h
      exact h
    · simp at hc
      obtain ⟨_, e⟩ := parts_some hc.1 (fun hl => hc.2 (List.eq_nil_of_length_eq_zero hl))
      rw [show a.Neg = decide ((valR a).num < 0) from by rw [e]; simp [← e], show a.Num = lim (valR a).num.natAbs from by rw [e]; simp [← e], show a.Den = lim (valR a).den from by rw [e]; simp [← e]]
      exact h

theorem RBlens {q : Rat} {k : Nat} (h : RB k q) : (lim q.num.natAbs).length ≤ k / 32 + 1 ∧ (lim q.den).length ≤ k / 32 + 1 := ⟨lim_len_bits h.1, lim_len_bits h.2⟩
theorem mulLens {m n k l : Nat} (h : m < 2 ^ k) (h' : n < 2 ^ l) : (lim (m * n)).length ≤ (k + l) / 32 + 1 := lim_len_bits (mul_lt_pow2 h h')
theorem addLens {m n k : Nat} (h : m < 2 ^ k) (h' : n < 2 ^ k) : (lim (m + n)).length ≤ (k + 1) / 32 + 1 := lim_len_bits (by rw [Nat.pow_succ]; omega)
/-- The sum over both denominators. -/
theorem add_frac (p q : Rat) : p + q = mkRat (sgn (decide (p.num < 0)) (p.num.natAbs * q.den) + sgn (decide (q.num < 0)) (q.num.natAbs * p.den)) (p.den * q.den) := by
  rw [sgn_mul, sgn_mul, sgn_self, sgn_self, Rat.add_def']
theorem mul_frac (p q : Rat) : p * q = mkRat (sgn (decide (p.num < 0) != decide (q.num < 0)) (p.num.natAbs * q.num.natAbs)) (p.den * q.den) := by
  rw [sgn_mul2, sgn_self, sgn_self, Rat.mul_def']
theorem inv_frac {q : Rat} (h : q.num ≠ 0) : q⁻¹ = mkRat (sgn (decide (q.num < 0)) q.den) q.num.natAbs := by
  rw [Rat.inv_def]
  by_cases hn : q.num < 0
  · rw [decide_eq_true hn]
    have e : q.num = -((q.num.natAbs : Nat) : Int) := by omega
    rw [← Rat.divInt_ofNat]
    show Rat.divInt q.den q.num = Rat.divInt (-(q.den : Int)) _
    rw [← Rat.divInt_neg', ← e]
  · rw [decide_eq_false hn]
    have e : q.num = ((q.num.natAbs : Nat) : Int) := by omega
    rw [← Rat.divInt_ofNat]
    show Rat.divInt q.den q.num = Rat.divInt (q.den : Int) _
    rw [← e]
theorem div_frac (p : Rat) {q : Rat} (h : q.num ≠ 0) : p / q = mkRat (sgn (decide (p.num < 0) != decide (q.num < 0)) (p.num.natAbs * q.den)) (p.den * q.num.natAbs) := by
  rw [Rat.div_def, inv_frac h, sgn_mul2, sgn_self]
  have : p = mkRat p.num p.den := (Rat.mkRat_self p).symm
  rw [this, Rat.mkRat_mul_mkRat, ← this]
theorem neg_frac (p : Rat) : -p = mkRat (sgn (!decide (p.num < 0)) p.num.natAbs) p.den := by
  have e : sgn (!decide (p.num < 0)) p.num.natAbs = -p.num := by
    by_cases h : p.num < 0
    · rw [decide_eq_true h]; simp only [sgn, Bool.not_true, Bool.false_eq_true, if_false]; omega
    · rw [decide_eq_false h]; simp only [sgn, Bool.not_false, if_true]; omega
  rw [e, ← Rat.neg_mkRat, Rat.mkRat_self]

theorem rational_Add_s {a b : GRat} {k l : Nat} {Q : GRat → Prop} (fa : Fr a) (fb : Fr b) (ka : RB k (valR a)) (kb : RB l (valR b)) (hk : k + l + 1 ≤ 35184372088000) (h : Q (ratOf (valR a + valR b))) : rational_Add_W a b Q := by
  refine rational_parts_s fa (rational_parts_s fb ?_)
  generalize valR a = p at ka h ⊢
  generalize valR b = q at kb h ⊢
  have la := RBlens ka
  have lb := RBlens kb
  have l1 := mulLens ka.1 kb.2
  have l2 := mulLens kb.1 ka.2
  have l3 := mulLens ka.2 kb.2
  have hd : p.den * q.den ≠ 0 := Nat.mul_ne_zero p.den_nz q.den_nz
  refine natural_Mul_s (lim_words _) (lim_words _) (by omega) (natural_Mul_s (lim_words _) (lim_words _) (by omega) (natural_Mul_s (lim_words _) (lim_words _) (by omega) ?_))
  simp only [val_lim]
  rw [add_frac] at h
  refine condE (fun hs => ?_) (fun hs => ?_)
  · refine natural_Add_s (lim_words _) (lim_words _) (by unfold SM; omega) ⟨by omega, by omega⟩ ?_
    simp only [val_lim]
    have l4 : (lim (p.num.natAbs * q.den + q.num.natAbs * p.den)).length ≤ (k + l + 1) / 32 + 1 := addLens (mul_lt_pow2 ka.1 kb.2) (by rw [Nat.add_comm k]; exact mul_lt_pow2 kb.1 ka.2)
    refine rational_form_s (lim_words _) (lim_words _) (by omega) (by omega) (by rw [val_lim]; exact hd) ?_
    rw [val_lim, val_lim, sgn_add]
    rw [← hs] at h
    exact h
  · refine natural_Cmp_s (lim_words _) (lim_words _) (by unfold SM; omega) (by unfold SM; omega) ?_
    simp only [val_lim]
    refine condT (fun hc => ?_) (fun hc => ?_)
    · have hle : q.num.natAbs * p.den ≤ p.num.natAbs * q.den := by
        rcases Nat.lt_or_ge (p.num.natAbs * q.den) (q.num.natAbs * p.den) with h1 | h1
        · have := cmpv_lt.2 h1; omega
        · exact h1
      refine natural_Sub_s (lim_words _) (lim_words _) (by unfold SM; omega) (by unfold SM; omega) (fun hh => by rw [val_lim, val_lim] at hh; omega) (fun _ => ?_)
      simp only [val_lim]
      have l4 := lim_len_mono (Nat.sub_le (p.num.natAbs * q.den) (q.num.natAbs * p.den))
      refine rational_form_s (lim_words _) (lim_words _) (by omega) (by omega) (by rw [val_lim]; exact hd) ?_
      rw [val_lim, val_lim, sgn_sub hs hle]
      exact h
    · have hle : p.num.natAbs * q.den ≤ q.num.natAbs * p.den := by
        rcases Nat.lt_or_ge (p.num.natAbs * q.den) (q.num.natAbs * p.den) with h1 | h1
        · omega
        · exfalso
          apply hc
          unfold cmpv
          split
          · omega
          · split <;> omega
      refine natural_Sub_s (lim_words _) (lim_words _) (by unfold SM; omega) (by unfold SM; omega) (fun hh => by rw [val_lim, val_lim] at hh; omega) (fun _ => ?_)
      simp only [val_lim]
      have l4 := lim_len_mono (Nat.sub_le (q.num.natAbs * p.den) (p.num.natAbs * q.den))
      refine rational_form_s (lim_words _) (lim_words _) (by omega) (by omega) (by rw [val_lim]; exact hd) ?_
      rw [val_lim, val_lim, sgn_sub (fun e => hs e.symm) hle, Int.add_comm]
      exact h
theorem rational_Mul_s {a b : GRat} {k l : Nat} {Q : GRat → Prop} (fa : Fr a) (fb : Fr b) (ka : RB k (valR a)) (kb : RB l (valR b)) (hk : k + l + 1 ≤ 35184372088000) (h : Q (ratOf (valR a * valR b))) : rational_Mul_W a b Q := by
  refine rational_parts_s fa (rational_parts_s fb ?_)
  generalize valR a = p at ka h ⊢
  generalize valR b = q at kb h ⊢
  have la := RBlens ka
  have lb := RBlens kb
  have l1 := mulLens ka.1 kb.1
  have l3 := mulLens ka.2 kb.2
  have hd : p.den * q.den ≠ 0 := Nat.mul_ne_zero p.den_nz q.den_nz
  refine natural_Mul_s (lim_words _) (lim_words _) (by omega) (natural_Mul_s (lim_words _) (lim_words _) (by omega) ?_)
  simp only [val_lim]
  refine rational_form_s (lim_words _) (lim_words _) (by omega) (by omega) (by rw [val_lim]; exact hd) ?_
  rw [val_lim, val_lim, ← mul_frac]
  exact h
theorem rational_Div_s {a b : GRat} {k l : Nat} {Q : GRat → Option Int → Prop} (fa : Fr a) (fb : Fr b) (ka : RB k (valR a)) (kb : RB l (valR b)) (hk : k + l + 1 ≤ 35184372088000)
    (h0 : valR b = 0 → Q (ratOf 0) (some 8)) (h : valR b ≠ 0 → Q (ratOf (valR a / valR b)) none) : rational_Div_W a b Q := by
  refine rational_parts_s fa (rational_parts_s fb ?_)
  generalize valR a = p at ka h ⊢
  generalize valR b = q at kb h h0 ⊢
  have la := RBlens ka
  have lb := RBlens kb
  have l1 := mulLens ka.1 kb.2
  have l3 := mulLens ka.2 kb.1
  refine condE (fun hc => ?_) (fun hc => ?_)
  · rw [len_lim_zero] at hc
    exact h0 (Rat.num_eq_zero.1 (by omega))
  · have hq : q.num ≠ 0 := fun hh => hc (len_lim_zero.2 (by omega))
    have hd : p.den * q.num.natAbs ≠ 0 := Nat.mul_ne_zero p.den_nz (by omega)
    refine natural_Mul_s (lim_words _) (lim_words _) (by omega) (natural_Mul_s (lim_words _) (lim_words _) (by omega) ?_)
    simp only [val_lim]
    refine rational_form_s (lim_words _) (lim_words _) (by omega) (by omega) (by rw [val_lim]; exact hd) ?_
    rw [val_lim, val_lim, ← div_frac p hq]
    exact h (fun hh => hq (by rw [hh]; rfl))
theorem rational_Neg_s {a : GRat} {k : Nat} {Q : GRat → Prop} (fa : Fr a) (ka : RB k (valR a)) (hk : k ≤ 35184372088000) (h : Q (ratOf (-valR a))) : rational_Neg_W a Q := by
  refine rational_parts_s fa ?_
  generalize valR a = p at ka h ⊢
  have la := RBlens ka
  refine rational_form_s (lim_words _) (lim_words _) (by omega) (by omega) (by rw [val_lim]; exact p.den_nz) ?_
  rw [val_lim, val_lim, ← neg_frac]
  exact h
theorem rational_Sub_s {a b : GRat} {k l : Nat} {Q : GRat → Prop} (fa : Fr a) (fb : Fr b) (ka : RB k (valR a)) (kb : RB l (valR b)) (hk : k + l + 1 ≤ 35184372088000) (h : Q (ratOf (valR a - valR b))) : rational_Sub_W a b Q := by
  refine ⟨_, rational_Neg_s fb kb (by omega) rfl, _, rational_Add_s fa (Fr_ratOf (RB_neg kb) (by omega)) ka (by rw [valR_ratOf]; exact RB_neg kb) hk rfl, ?_⟩
  rw [valR_ratOf, ← Rat.sub_eq_add_neg]
  exact h
/-- The sign of a number. -/
def sgnR (q : Rat) : Int := if q.num = 0 then 0 else if q.num < 0 then -1 else 1
theorem rational_Sign_s {a : GRat} {Q : Int → Prop} (fa : Fr a) (h : Q (sgnR (valR a))) : rational_Sign_W a Q := by
  refine rational_parts_s fa ?_
  generalize valR a = p at h ⊢
  unfold sgnR at h
  refine condE (fun hc => ?_) (fun hc => ?_)
  · rw [len_lim_zero] at hc
    rw [if_pos (by omega)] at h; exact h
  · have hq : p.num ≠ 0 := fun hh => hc (len_lim_zero.2 (by omega))
    rw [if_neg hq] at h
    refine condT (fun hs => ?_) (fun hs => ?_)
    · rw [if_pos hs] at h; exact h
    · rw [if_neg hs] at h; exact h
theorem rational_Cmp_s {a b : GRat} {k l : Nat} {Q : Int → Prop} (fa : Fr a) (fb : Fr b) (ka : RB k (valR a)) (kb : RB l (valR b)) (hk : k + l + 1 ≤ 35184372088000) (h : Q (sgnR (valR a - valR b))) : rational_Cmp_W a b Q := by
  refine rational_Sub_s fa fb ka kb hk (rational_Sign_s (Fr_ratOf (RB_sub ka kb) hk) ?_)
  rw [valR_ratOf]
  exact h
theorem rational_size_s {n : Int} {Q : List Int → Prop} (hn : rng n) (h : Q (lim n.natAbs)) : rational_size_W n Q := by
  refine condE (fun hc => ?_) (fun hc => ?_)
  · subst hc
    have : lim (Int.natAbs (-9223372036854775808)) = [0, 2147483648] := by
      rw [show Int.natAbs (-9223372036854775808) = 9223372036854775808 from rfl, lim_pos (by omega), lim_pos (by omega)]
      simp [lim_zero]
    rw [this] at h
    exact h
  · unfold rng at hn ⊢
    refine ⟨by omega, natural_Of_s (by omega) ?_⟩
    have : (max n (-n)).toNat = n.natAbs := by omega
    rw [this]
    exact h
theorem rational_Of_s {n : Int} {Q : GRat → Prop} (hn : rng n) (h : Q (ratOf (n : Rat))) : rational_Of_W n Q := by
  refine rational_size_s hn ?_
  show rational_form_W _ _ [1] _
  have hl : (lim n.natAbs).length ≤ 64 / 32 + 1 := lim_len_bits (by unfold rng at hn; omega)
  refine rational_form_s (lim_words _) Words_one (by omega) (by simp) (by rw [val_one]; omega) ?_
  rw [val_lim, val_one, sgn_natAbs, show mkRat n 1 = (n : Rat) from Rat.mkRat_self (n : Rat)]
  exact h
end Go.Gg
