/- The reference's fractions: what its functions return. Conditions: the numbers fit the machine. -/
import Derived.Test.YtonbnfgknijpoaaRatB
namespace Go.Gg

theorem ref02_From_s {neg : Bool} {num den : List Int} {Q : GRat → Int → Prop} (hn : Words num) (hd : Words den) (ln : num.length ≤ 1099511627760) (ld : den.length ≤ 1099511627760)
    (h8 : val den = 0 → Q (ratOf 0) 8) (h : val den ≠ 0 → Q (ratOf (mkRat (sgn neg (val num)) (val den))) 0) : ref02_From_W neg num den Q := by
  refine ref01_Bits_s hd (by unfold SM; omega) (condE (fun hc => ?_) (fun hc => ?_))
  · exact h8 (blen_eq_zero.1 hc)
  have h0 : val den ≠ 0 := fun hh => hc (blen_eq_zero.2 hh)
  replace h := h h0
  refine ref01_Bits_s hn (by unfold SM; omega) (condE (fun hc => ?_) (fun hc => ?_))
  · rw [blen_eq_zero] at hc
    rw [hc, ratOf_mk0] at h
    exact h
  · have hn0 : val num ≠ 0 := fun hh => hc (blen_eq_zero.2 hh)
    rw [ratOf_mk hn0 h0] at h
    have hgp : Nat.gcd (val num) (val den) ≠ 0 := Nat.ne_of_gt (Nat.gcd_pos_of_pos_left _ (by omega))
    refine ref01_Gcd_s hn hd (by omega) (by omega) ?_
    have hgl : (lim (Nat.gcd (val num) (val den))).length ≤ 1099511627760 := by
      refine Nat.le_trans (lim_len_mono (Nat.gcd_le_left _ (by omega))) (Nat.le_trans (lim_len_le hn) ln)
    refine ref01_Div_s hn (lim_words _) (by omega) (by omega) (fun hh => absurd (by rwa [val_lim] at hh) hgp) (fun _ => ?_)
    refine ref01_Div_s hd (lim_words _) (by omega) (by omega) (fun hh => absurd (by rwa [val_lim] at hh) hgp) (fun _ => ?_)
    rw [val_lim]
    exact h
theorem ref02_From_s' {neg : Bool} {num den : List Int} {Q : GRat → Int → Prop} (hn : Words num) (hd : Words den) (ln : num.length ≤ 1099511627760) (ld : den.length ≤ 1099511627760)
    (h0 : val den ≠ 0) (h : Q (ratOf (mkRat (sgn neg (val num)) (val den))) 0) : ref02_From_W neg num den Q :=
  ref02_From_s hn hd ln ld (fun hh => absurd hh h0) (fun _ => h)
theorem blen_one {n : Nat} : ((blen n : Int) == 1) = decide (n = 1) := by
  have h : (blen n : Int) = 1 ↔ n = 1 := by
    constructor
    · intro h
      have a := blen_lt (n := n)
      rw [show blen n = 1 by omega] at a
      have : n ≠ 0 := by rintro rfl; rw [blen_zero] at h; omega
      omega
    · rintro rfl; rfl
  by_cases hn : n = 1
  · rw [decide_eq_true hn]; simpa using h.2 hn
  · rw [decide_eq_false hn]; simpa using fun e => hn (h.1 e)
theorem ref02_Valid_s {a : GRat} {Q : Bool → Prop} (fa : Fr a) (h : Q (okR a)) : ref02_Valid_W a Q := by
  obtain ⟨hn, hd, ln, ld⟩ := fa
  rw [okR_iff hn hd] at h
  have hpb : ∀ l : List Int, l.length ≠ 0 → l.length ≤ 1099511627760 → rng ((l.length : Int) - 1) ∧ ((0 : Int) ≤ ((l.length : Int) - 1) ∧ ((l.length : Int) - 1) < (l.length : Int)) ∧ plainB l = (at' l ((l.length : Int) - 1) != 0) := fun l hl hl2 => by
    have : (l.length : Int) - 1 = ((l.length - 1 : Nat) : Int) := by omega
    refine ⟨by unfold rng; omega, by omega, ?_⟩
    rw [this, at_nat]
    simp only [plainB]
    rw [decide_eq_true (by omega : 0 < l.length), Bool.true_and]
  have hpn : ∀ l : List Int, l.length = 0 → plainB l = false := fun l hl => by
    simp only [plainB]
    rw [decide_eq_false (by omega : ¬ 0 < l.length), Bool.false_and]
  refine ⟨fun x => x = decide (a.Num.length = 0 ∨ a.Den.length = 0), ?_, ?_⟩
  · refine condE (fun hc => ?_) (fun hc => ?_)
    · rw [decide_eq_true (by omega)]
    · by_cases hd0 : a.Den.length = 0
      · rw [decide_eq_true (by omega)]; simp; exact List.eq_nil_of_length_eq_zero hd0
      · rw [decide_eq_false (by omega)]; simp; intro hh; exact hd0 (by rw [hh]; rfl)
  · rintro _ rfl
    refine condT (fun hc => ?_) (fun hc => ?_)
    · refine condE (fun h1 => condE (fun h2 => ?_) (fun h2 => ?_)) (fun h1 => ?_)
      · rw [if_pos (by omega)] at h; exact h
      · rw [if_neg (by omega), hpn _ (by omega : a.Num.length = 0), Bool.false_and] at h; exact h
      · rw [if_neg (by omega), hpn a.Den (by omega), Bool.false_and, Bool.and_false] at h; exact h
    · obtain ⟨r1, r2, r3⟩ := hpb a.Num (by omega) ln
      obtain ⟨s1, s2, s3⟩ := hpb a.Den (by omega) ld
      rw [if_neg (by omega)] at h
      refine ⟨r1, r2, ?_⟩
      rw [← r3]
      refine condB (fun hp => ⟨s1, s2, ?_⟩) (fun hp => ?_)
      · rw [hp, Bool.true_and] at h
        rw [← s3]
        refine condB (fun hq => ?_) (fun hq => ?_)
        · rw [hq, Bool.true_and] at h
          refine ref01_Gcd_s hn hd (by omega) (by omega) ?_
          have hgl : (lim (Nat.gcd (val a.Num) (val a.Den))).length ≤ 1099511627760 := by
            refine Nat.le_trans (lim_len_mono (Nat.gcd_le_left _ ?_)) (Nat.le_trans (lim_len_le hn) ln)
            have := (plain_val hn hp).2
            omega
          refine ref01_Bits_s (lim_words _) (by unfold SM; omega) ?_
          rw [val_lim, blen_one]
          exact h
        · rw [hq, Bool.false_and] at h; exact h
      · rw [hp, Bool.false_and] at h; exact h
theorem ref02_Parts_s {a : GRat} {Q : Bool → List Int → List Int → Prop} (fa : Fr a) (h : Q (decide ((valR a).num < 0)) (lim (valR a).num.natAbs) (lim (valR a).den)) : ref02_Parts_W a Q := by
  refine ⟨fun x => x = (!okR a || decide (a.Num.length = 0)), ?_, ?_⟩
  · refine ref02_Valid_s fa (condB (fun hc => ?_) (fun hc => ?_))
    · rw [hc]; rfl
    · have hc : okR a = true := by simpa using hc
      rw [hc, Bool.not_true, Bool.false_or]
      by_cases hl : a.Num.length = 0
      · rw [decide_eq_true hl]; simp; exact List.eq_nil_of_length_eq_zero hl
      · rw [decide_eq_false hl]; simp; intro hh; exact hl (by rw [hh]; rfl)
  · rintro _ rfl
    refine condB (fun hc => ?_) (fun hc => ?_)
    · have hz : valR a = 0 := parts_zero (fun ho => by rw [ho] at hc; simpa using hc)
      rw [hz] at h
      simp at h
      rw [lim_zero, lim_1] at h
      exact h
    · simp at hc
      obtain ⟨_, e⟩ := parts_some hc.1 (fun hl => hc.2 (List.eq_nil_of_length_eq_zero hl))
      rw [show a.Neg = decide ((valR a).num < 0) from by rw [e]; simp [← e], show a.Num = lim (valR a).num.natAbs from by rw [e]; simp [← e], show a.Den = lim (valR a).den from by rw [e]; simp [← e]]
      exact h
theorem ref02_Add_s {a b : GRat} {k l : Nat} {Q : GRat → Prop} (fa : Fr a) (fb : Fr b) (ka : RB k (valR a)) (kb : RB l (valR b)) (hk : k + l + 1 ≤ 35184372088000) (h : Q (ratOf (valR a + valR b))) : ref02_Add_W a b Q := by
  refine ref02_Parts_s fa (ref02_Parts_s fb ?_)
  generalize valR a = p at ka h ⊢
  generalize valR b = q at kb h ⊢
  have la := RBlens ka
  have lb := RBlens kb
  have l1 := mulLens ka.1 kb.2
  have l2 := mulLens kb.1 ka.2
  have l3 := mulLens ka.2 kb.2
  have hd : p.den * q.den ≠ 0 := Nat.mul_ne_zero p.den_nz q.den_nz
  refine ref01_Mul_s (lim_words _) (lim_words _) (by omega) (ref01_Mul_s (lim_words _) (lim_words _) (by omega) (ref01_Mul_s (lim_words _) (lim_words _) (by omega) ?_))
  simp only [val_lim]
  rw [add_frac] at h
  refine condE (fun hs => ?_) (fun hs => ?_)
  · refine ref01_Add_s (lim_words _) (lim_words _) ⟨by omega, by omega⟩ ?_
    simp only [val_lim]
    have l4 : (lim (p.num.natAbs * q.den + q.num.natAbs * p.den)).length ≤ (k + l + 1) / 32 + 1 := addLens (mul_lt_pow2 ka.1 kb.2) (by rw [Nat.add_comm k]; exact mul_lt_pow2 kb.1 ka.2)
    refine ref02_From_s' (lim_words _) (lim_words _) (by omega) (by omega) (by rw [val_lim]; exact hd) ?_
    rw [val_lim, val_lim, sgn_add]
    rw [← hs] at h
    exact h
  · refine joinIn (ref01_Cmp_s (lim_words _) (lim_words _) (by unfold SM; omega) (by unfold SM; omega) ?_)
    simp only [val_lim]
    refine condT (fun hc => ?_) (fun hc => ?_)
    · have hlt : p.num.natAbs * q.den < q.num.natAbs * p.den := cmpv_lt.1 hc
      refine ref01_Sub_s (lim_words _) (lim_words _) (by unfold SM; omega) (by unfold SM; omega) (fun hh => by rw [val_lim, val_lim] at hh; omega) (fun _ => ?_)
      simp only [val_lim]
      have l4 := lim_len_mono (Nat.sub_le (q.num.natAbs * p.den) (p.num.natAbs * q.den))
      refine ref02_From_s' (lim_words _) (lim_words _) (by omega) (by omega) (by rw [val_lim]; exact hd) ?_
      rw [val_lim, val_lim, sgn_sub (fun e => hs e.symm) (by omega), Int.add_comm]
      exact h
    · have hle : q.num.natAbs * p.den ≤ p.num.natAbs * q.den := by
        rcases Nat.lt_or_ge (p.num.natAbs * q.den) (q.num.natAbs * p.den) with h1 | h1
        · exact absurd (cmpv_lt.2 h1) hc
        · exact h1
      refine ref01_Sub_s (lim_words _) (lim_words _) (by unfold SM; omega) (by unfold SM; omega) (fun hh => by rw [val_lim, val_lim] at hh; omega) (fun _ => ?_)
      simp only [val_lim]
      have l4 := lim_len_mono (Nat.sub_le (p.num.natAbs * q.den) (q.num.natAbs * p.den))
      refine ref02_From_s' (lim_words _) (lim_words _) (by omega) (by omega) (by rw [val_lim]; exact hd) ?_
      rw [val_lim, val_lim, sgn_sub hs hle]
      exact h
theorem ref02_Mul_s {a b : GRat} {k l : Nat} {Q : GRat → Prop} (fa : Fr a) (fb : Fr b) (ka : RB k (valR a)) (kb : RB l (valR b)) (hk : k + l + 1 ≤ 35184372088000) (h : Q (ratOf (valR a * valR b))) : ref02_Mul_W a b Q := by
  refine ref02_Parts_s fa (ref02_Parts_s fb ?_)
  generalize valR a = p at ka h ⊢
  generalize valR b = q at kb h ⊢
  have la := RBlens ka
  have lb := RBlens kb
  have l1 := mulLens ka.1 kb.1
  have l3 := mulLens ka.2 kb.2
  have hd : p.den * q.den ≠ 0 := Nat.mul_ne_zero p.den_nz q.den_nz
  refine ref01_Mul_s (lim_words _) (lim_words _) (by omega) (ref01_Mul_s (lim_words _) (lim_words _) (by omega) ?_)
  simp only [val_lim]
  refine ref02_From_s' (lim_words _) (lim_words _) (by omega) (by omega) (by rw [val_lim]; exact hd) ?_
  rw [val_lim, val_lim, ← mul_frac]
  exact h
theorem ref02_Div_s {a b : GRat} {k l : Nat} {Q : GRat → Int → Prop} (fa : Fr a) (fb : Fr b) (ka : RB k (valR a)) (kb : RB l (valR b)) (hk : k + l + 1 ≤ 35184372088000)
    (h0 : valR b = 0 → Q (ratOf 0) 8) (h : valR b ≠ 0 → Q (ratOf (valR a / valR b)) 0) : ref02_Div_W a b Q := by
  refine ref02_Parts_s fa (ref02_Parts_s fb ?_)
  generalize valR a = p at ka h ⊢
  generalize valR b = q at kb h h0 ⊢
  have la := RBlens ka
  have lb := RBlens kb
  have l1 := mulLens ka.1 kb.2
  have l3 := mulLens ka.2 kb.1
  refine ref01_Mul_s (lim_words _) (lim_words _) (by omega) (ref01_Mul_s (lim_words _) (lim_words _) (by omega) ?_)
  simp only [val_lim]
  refine ref02_From_s (lim_words _) (lim_words _) (by omega) (by omega) (fun hz => ?_) (fun hz => ?_)
  · rw [val_lim] at hz
    refine h0 (Rat.num_eq_zero.1 ?_)
    rcases Nat.mul_eq_zero.1 hz with hh | hh
    · exact absurd hh p.den_nz
    · omega
  · rw [val_lim] at hz
    have hq : q.num ≠ 0 := fun hh => hz (by rw [hh]; simp)
    rw [val_lim, val_lim, ← div_frac p hq]
    exact h (fun hh => hq (by rw [hh]; rfl))
theorem ref02_Neg_s {a : GRat} {k : Nat} {Q : GRat → Prop} (fa : Fr a) (ka : RB k (valR a)) (hk : k ≤ 35184372088000) (h : Q (ratOf (-valR a))) : ref02_Neg_W a Q := by
  refine ref02_Parts_s fa ?_
  generalize valR a = p at ka h ⊢
  have la := RBlens ka
  refine ref02_From_s' (lim_words _) (lim_words _) (by omega) (by omega) (by rw [val_lim]; exact p.den_nz) ?_
  rw [val_lim, val_lim, ← neg_frac]
  exact h
theorem ref02_Sub_s {a b : GRat} {k l : Nat} {Q : GRat → Prop} (fa : Fr a) (fb : Fr b) (ka : RB k (valR a)) (kb : RB l (valR b)) (hk : k + l + 1 ≤ 35184372088000) (h : Q (ratOf (valR a - valR b))) : ref02_Sub_W a b Q := by
  refine ⟨_, ref02_Neg_s fb kb (by omega) rfl, _, ref02_Add_s fa (Fr_ratOf (RB_neg kb) (by omega)) ka (by rw [valR_ratOf]; exact RB_neg kb) hk rfl, ?_⟩
  rw [valR_ratOf, ← Rat.sub_eq_add_neg]
  exact h
theorem ref02_Sign_s {a : GRat} {Q : Int → Prop} (fa : Fr a) (h : Q (sgnR (valR a))) : ref02_Sign_W a Q := by
  refine ref02_Parts_s fa ?_
  generalize valR a = p at h ⊢
  unfold sgnR at h
  refine condE (fun hc => ?_) (fun hc => ?_)
  · rw [len_lim_zero] at hc
    rw [if_pos (by omega)] at h; exact h
  · have hq : p.num ≠ 0 := fun hh => hc (len_lim_zero.2 (by omega))
    rw [if_neg hq] at h
    refine condT (fun hs => ?_) (fun hs => ?_)
    · rw [if_pos hs] at h; exact h
    · rw [if_neg hs] at h; exact h
theorem ref02_Cmp_s {a b : GRat} {k l : Nat} {Q : Int → Prop} (fa : Fr a) (fb : Fr b) (ka : RB k (valR a)) (kb : RB l (valR b)) (hk : k + l + 1 ≤ 35184372088000) (h : Q (sgnR (valR a - valR b))) : ref02_Cmp_W a b Q := by
  refine ref02_Sub_s fa fb ka kb hk (ref02_Sign_s (Fr_ratOf (RB_sub ka kb) hk) ?_)
  rw [valR_ratOf]
  exact h
theorem ref02_size_s {n : Int} {Q : List Int → Prop} (hn : rng n) (h : ∀ l, Words l → l.length = 2 → val l = n.natAbs → Q l) : ref02_size_W n Q := by
  unfold rng at hn
  refine joinIn ?_
  have key : ∀ u : Int, u = n.natAbs → Q [(IntKind.wrap .u32 u), (IntKind.wrap .u32 (u / 2 ^ (Int.toNat 32)))] := by
    intro u hu
    rw [wrap_u32, wrap_u32]
    have h32 : (2 : Int) ^ (Int.toNat 32) = 4294967296 := rfl
    rw [h32]
    have hw2 : Words [u / 4294967296 % 4294967296] := Words.one (by omega) (by omega)
    have hw : Words [u % 4294967296, u / 4294967296 % 4294967296] := by
      intro i
      match i with
      | 0 => simp; omega
      | 1 => simp; omega
      | i + 2 => simp
    refine h _ hw rfl ?_
    rw [val_cons hw, val_cons hw2, val_nil]
    omega
  refine condT (fun hc => letIn ?_) (fun hc => ?_)
  · rw [wrap_u64, wrap_u64]
    exact key _ (by omega)
  · rw [wrap_u64]
    exact key _ (by omega)
theorem ref02_Make_s {n d : Int} {Q : GRat → Int → Prop} (hn : rng n) (hd : rng d) (h0 : d = 0 → Q (ratOf 0) 8) (h : d ≠ 0 → Q (ratOf ((n : Rat) / (d : Rat))) 0) : ref02_Make_W n d Q := by
  refine ref02_size_s hn fun l1 w1 e1 v1 => ref02_size_s hd fun l2 w2 e2 v2 => ?_
  refine ref02_From_s w1 w2 (by omega) (by omega) (fun hz => ?_) (fun hz => ?_)
  · exact h0 (by omega)
  · rw [v1, v2]
    have hd0 : d ≠ 0 := by omega
    have e := div_frac (n : Rat) (q := (d : Rat)) (by simpa using hd0)
    simp only [Rat.num_intCast, Rat.den_intCast, Nat.mul_one, Nat.one_mul] at e
    have h2 := h hd0
    rw [e] at h2
    exact h2
theorem ref02_Of_s {n : Int} {Q : GRat → Prop} (hn : rng n) (h : Q (ratOf (n : Rat))) : ref02_Of_W n Q := by
  refine ref02_Make_s hn (by unfold rng; omega) (fun hh => absurd hh (by omega)) (fun _ => ?_)
  have : (n : Rat) / ((1 : Int) : Rat) = n := by
    rw [Rat.div_def]
    show (n : Rat) * (1 : Rat)⁻¹ = n
    rw [show (1 : Rat)⁻¹ = 1 from (Rat.mul_one _).symm.trans (Rat.inv_mul_cancel 1 (by decide)), Rat.mul_one]
  rw [this]
  exact h
end Go.Gg
