/- What the functions of the first reference compute, told of their formulas: part C: division, the greatest common divisor. Conditions: none. -/
import Derived.Test.YtonbnfgknijpoaaRefB
namespace Go.Gg

theorem rng_s31 {s : Nat} (h : s ≤ 31) : rng ((s : Int) + 1) := by unfold rng; omega
theorem dec_s31 {s : Nat} (h : s ≤ 31) : 32 - ((s : Int) + 1).toNat < 32 - (s : Int).toNat := by omega
theorem cmpv_gt {m n : Nat} : 0 < cmpv m n ↔ n < m := by
  unfold cmpv
  by_cases h : m < n
  · simp only [h, if_true]; omega
  · rw [if_neg h]; split <;> omega
theorem val_words {R k : Nat} (h : R < 4294967296 ^ k) : (R : Int) = pv (lim R) k := by
  have h1 := lim_len_lt h
  have h2 := val_pv' (lim_words R) h1
  rw [val_lim] at h2
  exact h2
theorem lim_one {g : Nat} (h : g < 4294967296) : val [(g : Int)] = g := by
  rw [val_cons (Words.one (by omega) (by omega)), val_nil]; omega

set_option maxHeartbeats 2000000 in
theorem ref01_Div_s {a b : List Int} {Q : List Int → List Int → Int → Prop} (ha : Words a) (hb : Words b) (la : a.length ≤ 1099511627760) (lb : b.length ≤ 1099511627760)
    (h0 : val b = 0 → Q [] [] 8) (h : val b ≠ 0 → Q (lim (val a / val b)) (lim (val a % val b)) 0) : ref01_Div_W a b Q := by
  refine ref01_Trim_s hb (by unfold SM; omega) ?_
  have b2 := lim_len_le hb
  have w2 := lim_words (val b)
  have v2 := val_lim (val b)
  refine condE (fun hc => ?_) (fun hc => ?_)
  · have : (lim (val b)).length = 0 := by omega
    have : lim (val b) = [] := List.eq_nil_of_length_eq_zero this
    rw [this, val_nil] at v2
    exact h0 v2.symm
  have hB : val b ≠ 0 := by intro hh; rw [hh, lim_zero] at hc; exact hc rfl
  replace h := h hB
  clear h0
  obtain ⟨m, hm⟩ : ∃ m, (lim (val b)).length = m + 1 := ⟨(lim (val b)).length - 1, by omega⟩
  have htop := lim_top hB
  have hbd := val_pv w2
  rw [v2] at hbd
  generalize hA : val a = A at *
  generalize hBv : val b = B at *
  generalize hlb : lim B = bl at *
  rw [hm] at htop hbd
  rw [Nat.add_sub_cancel] at htop
  have hwt := w2 m
  have hml : (bl.length : Int) - 1 = (m : Int) := by omega
  obtain ⟨tp, htp⟩ : ∃ x : Nat, bl.getD m 0 = x := ⟨(bl.getD m 0).toNat, by omega⟩
  rw [htp] at htop hwt
  have htp0 : tp ≠ 0 := by omega
  have c1 := blen_lt (n := tp)
  have c2 := blen_le htp0
  have c3 := blen_le32 (x := tp) (by omega)
  have c4 : blen tp ≠ 0 := by unfold blen; rw [if_neg htp0]; omega
  have hPm := pow_pos_w m
  refine ⟨fun y => ∃ s : Nat, y = s ∧ s ≤ 32 - blen tp, fun y => 32 - y.toNat, ⟨0, rfl, by omega⟩, ?_⟩
  rintro _ ⟨s, rfl, hs⟩
  have hps := pow2_pos s
  have hsle : (2 : Int) ^ (blen tp) * 2 ^ s ≤ 4294967296 := by
    have e1 : (2 : Int) ^ (blen tp + s) * 2 ^ (32 - (blen tp + s)) = 4294967296 := pow2_split (c := 32) (by omega)
    rw [← Int.pow_add]
    have := pow2_pos (32 - (blen tp + s))
    have h3 := pow2_pos (blen tp + s)
    have : (2 : Int) ^ (blen tp + s) * 1 ≤ 2 ^ (blen tp + s) * 2 ^ (32 - (blen tp + s)) := Int.mul_le_mul_of_nonneg_left (by omega) (by omega)
    omega
  have f1 : (tp : Int) + 1 ≤ 2 ^ (blen tp) := by exact_mod_cast c1
  have g1 : ((tp : Int) + 1) * 2 ^ s ≤ 2 ^ (blen tp) * 2 ^ s := Int.mul_le_mul_of_nonneg_right f1 (by omega)
  have g1' : ((tp : Int) + 1) * 2 ^ s = tp * 2 ^ s + 2 ^ s := by rw [Int.add_mul]; omega
  have ht0 : 0 ≤ (tp : Int) * 2 ^ s := Int.mul_nonneg (by omega) (by omega)
  have hw32 : (tp : Int) * 2 ^ s % 4294967296 = tp * 2 ^ s := Int.emod_eq_of_lt ht0 (by omega)
  rw [hml, at_nat, htp, Int.toNat_natCast, wrap_u32, hw32, and_top ht0 (by omega)]
  have hs31 : s ≤ 31 := by omega
  have hr1 : rng ((s : Int) + 1) := rng_s31 hs31
  have hr2 : 32 - ((s : Int) + 1).toNat < 32 - ((s : Int)).toNat := dec_s31 hs31
  refine ⟨by unfold rng; omega, ⟨by omega, by omega⟩, ⟨by omega, by omega⟩, condE (fun he => ⟨hr1, ⟨s + 1, rfl, ?_⟩, hr2⟩) (fun he => ?_)⟩
  · -- the highest bit is not there yet
    have hlt : (tp : Int) * 2 ^ s < 2147483648 := by
      rcases Int.lt_or_le ((tp : Int) * 2 ^ s) 2147483648 with hh | hh
      · exact hh
      · rw [if_neg (by omega)] at he; cases he
    rcases Nat.lt_or_ge s (32 - blen tp) with hh | hh
    · omega
    · exfalso
      have hse : s = 32 - blen tp := by omega
      have e2 : (2 : Int) ^ (blen tp - 1) * 2 ^ s = 2147483648 := pow2_split (c := 31) (by omega)
      have f2 : (2 : Int) ^ (blen tp - 1) ≤ tp := by exact_mod_cast c2
      have g2 : (2 : Int) ^ (blen tp - 1) * 2 ^ s ≤ tp * 2 ^ s := Int.mul_le_mul_of_nonneg_right f2 (by omega)
      omega
  have hge31 : 2147483648 ≤ (tp : Int) * 2 ^ s := by
    rcases Int.lt_or_le ((tp : Int) * 2 ^ s) 2147483648 with hh | hh
    · rw [if_pos hh] at he; exact absurd rfl he
    · exact hh
  clear he
  refine ref01_up_s ha (by omega) (by omega) (ref01_up_s w2 (by omega) (by omega) ?_)
  rw [hA, v2]
  obtain ⟨A2, hA2⟩ : ∃ A2, A2 = A * 2 ^ s := ⟨_, rfl⟩
  obtain ⟨B2, hB2⟩ : ∃ B2, B2 = B * 2 ^ s := ⟨_, rfl⟩
  rw [← hA2, ← hB2]
  have hB2i : (B2 : Int) = (B : Int) * 2 ^ s := by rw [hB2]; simp
  have hbm := pv_bound w2 m
  have hbd2 : (B : Int) = pv bl m + tp * 4294967296 ^ m := by rw [hbd, pv, htp]
  have ew1 : (4294967296 : Int) ^ (m + 1) = 4294967296 ^ m * 4294967296 := Int.pow_succ ..
  have hB2lt : (B2 : Int) < 4294967296 ^ (m + 1) := by
    have k1 : (B : Int) + 1 ≤ (tp + 1) * 4294967296 ^ m := by rw [Int.add_mul]; omega
    have k2 : ((B : Int) + 1) * 2 ^ s ≤ ((tp + 1) * 4294967296 ^ m) * 2 ^ s := Int.mul_le_mul_of_nonneg_right k1 (by omega)
    have k4 : (((tp : Int) + 1) * 2 ^ s) * 4294967296 ^ m ≤ 4294967296 * 4294967296 ^ m := Int.mul_le_mul_of_nonneg_right (by omega) (by omega)
    rw [Int.mul_right_comm] at k2
    rw [Int.add_mul] at k2
    rw [hB2i, ew1]
    omega
  have hB2ge : 2147483648 * 4294967296 ^ m ≤ (B2 : Int) := by
    have k1 : (tp : Int) * 4294967296 ^ m ≤ B := by omega
    have k2 : (tp : Int) * 4294967296 ^ m * 2 ^ s ≤ B * 2 ^ s := Int.mul_le_mul_of_nonneg_right k1 (by omega)
    have k3 : 2147483648 * 4294967296 ^ m ≤ (tp : Int) * 2 ^ s * 4294967296 ^ m := Int.mul_le_mul_of_nonneg_right hge31 (by omega)
    rw [Int.mul_right_comm] at k2
    omega
  have hB20 : 0 < B2 := by omega
  have hB2N : B2 < 4294967296 ^ (m + 1) := by
    have : ((4294967296 ^ (m + 1) : Nat) : Int) = (4294967296 : Int) ^ (m + 1) := by simp
    omega
  have wA := lim_words A2
  have vA := val_lim A2
  have wB := lim_words B2
  have hlB : (lim B2).length ≤ m + 1 := lim_len_lt hB2N
  have hLA : (lim A2).length ≤ 1099511627762 := by
    have k1 : A < 4294967296 ^ a.length := by rw [← hA]; exact val_lt_pow ha
    have k2 : A * 2 ^ s < 4294967296 ^ (a.length + 1) := by
      rw [Nat.pow_succ]
      have k3 : 2 ^ s ≤ 2 ^ 32 := Nat.pow_le_pow_right (by omega) (by omega)
      exact Nat.mul_lt_mul_of_lt_of_le k1 k3 (by omega)
    rw [hA2]
    have := lim_len_lt k2
    omega
  have hBtop := val_words hB2N
  generalize hlA2 : lim A2 = al at *
  generalize hlB2 : lim B2 = bl2 at *
  obtain ⟨L, hL⟩ : ∃ L, al.length = L := ⟨_, rfl⟩
  have hApv : (A2 : Int) = pv al L := by rw [← vA, ← hL]; exact val_pv wA
  -- the first remainder
  obtain ⟨r0, hr0⟩ : ∃ r0, r0 = [] ++ sub' al (max 0 ((al.length : Int) - (bl.length : Int) + 1)) (al.length : Int) := ⟨_, rfl⟩
  obtain ⟨J, hJ⟩ : ∃ J, J = L - m := ⟨_, rfl⟩
  have hr0d : r0 = al.drop J := by
    rw [hr0]
    show [] ++ (al.drop _).take _ = _
    have e : (max 0 ((al.length : Int) - (bl.length : Int) + 1)).toNat = J := by omega
    rw [e, List.nil_append, Int.toNat_natCast]
    exact List.take_of_length_le (by simp)
  rw [← hr0]
  refine ⟨mk_ok (by omega) (by omega), by unfold rng; omega, by unfold rng; omega, ⟨by omega, by omega, by omega⟩, ?_, by unfold rng; omega, ?_⟩
  · rw [hr0d]; simp; omega
  have hr0w : Words r0 := by rw [hr0d]; exact wA.drop J
  have hr0l : r0.length = L - J := by rw [hr0d, List.length_drop, hL]
  have hsplit : (A2 : Int) = pv al J + val r0 * 4294967296 ^ J := by
    have k0 : L = J + (L - J) := by omega
    rw [hApv, k0, pv_split, val_pv hr0w, hr0l, hr0d]
  have hr0B : val r0 < B2 := by
    have k1 := val_lt_pow hr0w
    have k2 : 4294967296 ^ r0.length ≤ 4294967296 ^ m := Nat.pow_le_pow_right (by omega) (by omega)
    have k3 : ((4294967296 ^ m : Nat) : Int) = (4294967296 : Int) ^ m := by simp
    omega
  refine ⟨fun y => ∃ j : Nat, (y.2.1 = (j : Int) - 1 ∨ (j = 0 ∧ y.2.1 < 0)) ∧ j ≤ L ∧ Words y.1 ∧ y.1.length ≤ m + 1 ∧ val y.1 < B2 ∧ y.2.2.length = L ∧ Words y.2.2 ∧ (∀ k, k < j → y.2.2.getD k 0 = 0) ∧ (A2 : Int) = pv y.2.2 L * B2 + val y.1 * 4294967296 ^ j + pv al j,
    fun y => (y.2.1 + 1).toNat, ⟨J, ?_, by omega, hr0w, by show r0.length ≤ _; omega, hr0B, by simp [rep', hL], Words.rep _, fun k hk => ?_, ?_⟩, ?_⟩
  · show (al.length : Int) - (bl.length : Int) = (J : Int) - 1 ∨ J = 0 ∧ (al.length : Int) - (bl.length : Int) < 0
    rcases Nat.lt_or_ge L (m + 1) with hh | hh
    · right; omega
    · left; omega
  · show (List.replicate ((al.length : Int)).toNat (0 : Int)).getD k 0 = 0
    rw [List.getD_eq_getElem?_getD, List.getElem?_replicate]; split <;> rfl
  · show (A2 : Int) = pv (List.replicate ((al.length : Int)).toNat (0 : Int)) L * B2 + val r0 * 4294967296 ^ J + pv al J
    rw [pv_rep]; omega
  clear hsplit hr0B hr0w hr0l hr0 hr0d
  clear r0
  rintro ⟨r, x, q⟩ ⟨j, hx, hj, hrw, hrl, hrB, hql, hqw, hqz, hsum⟩
  simp only at hx hj hrw hrl hrB hql hqw hqz hsum
  refine condT (fun hc => ?_) (fun hc => ?_)
  · obtain ⟨i, rfl⟩ : ∃ i, j = i + 1 := ⟨j - 1, by omega⟩
    obtain rfl : x = (i : Int) := by omega
    have hai := wA i
    rw [at_nat]
    have hw1 : Words ([al.getD i 0] ++ r) := (Words.one hai.1 hai.2).append hrw
    refine ⟨⟨by omega, by omega⟩, by simp; omega, ref01_Trim_s hw1 (by simp [SM]; omega) ?_⟩
    obtain ⟨R, hRd⟩ : ∃ R, R = val ([al.getD i 0] ++ r) := ⟨_, rfl⟩
    rw [← hRd]
    have hRv : (R : Int) = al.getD i 0 + 4294967296 * val r := by
      rw [hRd]
      have : val ([al.getD i 0] ++ r) = (al.getD i 0).toNat + 4294967296 * val r := val_cons hw1
      rw [this]; omega
    have hRB : R < B2 * 4294967296 := by omega
    have hRn : R < 4294967296 ^ (m + 2) := by
      have k1 : B2 * 4294967296 < 4294967296 ^ (m + 1) * 4294967296 := Nat.mul_lt_mul_of_pos_right hB2N (by omega)
      have k2 : 4294967296 ^ (m + 2) = 4294967296 ^ (m + 1) * 4294967296 := Nat.pow_succ ..
      omega
    have hRp := val_words hRn
    have wR := lim_words R
    have hlR : (lim R).length ≤ m + 2 := lim_len_lt hRn
    have vR := val_lim R
    have hmb : (bl.length : Int) = ((m + 1 : Nat) : Int) := by omega
    rw [hmb]
    refine ref01_word_s wR ⟨by unfold rng; omega, ref01_word_s wR ⟨by unfold rng; omega, ref01_word_s wB ?_⟩⟩
    have h1 := wR (m + 1)
    have h2 := wR m
    have h3 := wB m
    have hBt : (B2 : Int) = pv bl2 m + bl2.getD m 0 * 4294967296 ^ m := by rw [hBtop, pv]
    have hb2m := pv_bound wB m
    have hr4 : 0 < bl2.getD m 0 := by
      rcases Int.lt_or_le 0 (bl2.getD m 0) with hh | hh
      · exact hh
      · have : bl2.getD m 0 = 0 := by omega
        rw [this] at hBt; omega
    have e32 : (2 : Int) ^ Int.toNat 32 = 4294967296 := rfl
    rw [e32, wrap_u64_id (m := (lim R).getD (m + 1) 0 * 4294967296) (by omega) (by omega), or_u64 32 h2.1 h2.2 (by omega) (by show _ % 4294967296 = 0; omega) (by omega)]
    generalize hhead : (lim R).getD (m + 1) 0 * 4294967296 + (lim R).getD m 0 = head
    have hhead0 : 0 ≤ head := by omega
    have hq0 : 0 ≤ head / bl2.getD m 0 := Int.ediv_nonneg hhead0 (by omega)
    have hq1 : head / bl2.getD m 0 ≤ head := Int.ediv_le_self _ hhead0
    rw [Int.tdiv_eq_ediv_of_nonneg hhead0, wrap_u64_id hq0 (by omega)]
    refine ⟨by omega, letIn ?_⟩
    obtain ⟨g0, hg0⟩ : ∃ g0 : Nat, min (head / bl2.getD m 0) 4294967295 = (g0 : Int) := ⟨(min (head / bl2.getD m 0) 4294967295).toNat, by omega⟩
    have hg0W : g0 < 4294967296 := by omega
    have hU : R < (g0 + 1) * B2 := by
      by_cases hcase : head / bl2.getD m 0 ≤ 4294967295
      · have hge : head / bl2.getD m 0 = g0 := by omega
        have k1 : head < ((g0 : Int) + 1) * bl2.getD m 0 := by
          have d1 : head = bl2.getD m 0 * (head / bl2.getD m 0) + head % bl2.getD m 0 := (Int.mul_ediv_add_emod head _).symm
          have d2 : head % bl2.getD m 0 < bl2.getD m 0 := Int.emod_lt_of_pos _ hr4
          rw [hge] at d1
          rw [Int.add_mul, Int.mul_comm]; omega
        have k2 : (head + 1) * 4294967296 ^ m ≤ (((g0 : Int) + 1) * bl2.getD m 0) * 4294967296 ^ m := Int.mul_le_mul_of_nonneg_right (by omega) (by omega)
        have k3 : (R : Int) = pv (lim R) m + head * 4294967296 ^ m := by
          rw [hRp, pv, pv, ew1, ← hhead, Int.add_mul, Int.mul_assoc ((lim R).getD (m + 1) 0), Int.mul_comm 4294967296]; omega
        have k4 := (pv_bound wR m).2
        have k5 : ((g0 : Int) + 1) * B2 = ((g0 : Int) + 1) * pv bl2 m + (((g0 : Int) + 1) * bl2.getD m 0) * 4294967296 ^ m := by rw [hBt, Int.mul_add, Int.mul_assoc]
        have k6 : 0 ≤ ((g0 : Int) + 1) * pv bl2 m := Int.mul_nonneg (by omega) hb2m.1
        have k7 : (((g0 + 1) * B2 : Nat) : Int) = ((g0 : Int) + 1) * B2 := by simp
        rw [Int.add_mul] at k2
        omega
      · have : g0 = 4294967295 := by omega
        subst this
        omega
    rw [hg0, wrap_u32]
    have hg0m : (g0 : Int) % 4294967296 = g0 := by omega
    rw [hg0m]
    refine ref01_Mul_s wB (Words.one (by omega) (by omega)) (by simp; omega) ?_
    have vB : val bl2 = B2 := by rw [← hlB2]; exact val_lim B2
    rw [lim_one hg0W, vB]
    refine ⟨fun y => ∃ g : Nat, y = ((g : Int), lim (B2 * g)) ∧ g < 4294967296 ∧ R < (g + 1) * B2, fun y => y.1.toNat, ⟨g0, rfl, hg0W, hU⟩, ?_⟩
    rintro _ ⟨g, rfl, hgW, hgU⟩
    have wP := lim_words (B2 * g)
    have vP := val_lim (B2 * g)
    have hPl : (lim (B2 * g)).length ≤ m + 2 := by
      refine lim_len_lt ?_
      rw [Nat.pow_succ]
      exact Nat.mul_lt_mul_of_lt_of_le hB2N (by omega) (by omega)
    refine ref01_Cmp_s wP wR (by unfold SM; omega) (by unfold SM; omega) ?_
    rw [vP, vR]
    refine condT (fun hgt => ?_) (fun hle => ?_)
    · have hgt' := cmpv_gt.1 hgt
      have hg1 : 1 ≤ g := by
        rcases Nat.eq_zero_or_pos g with hh | hh
        · subst hh; simp at hgt'
        · exact hh
      have hmul : B2 * (g - 1) = B2 * g - B2 := by rw [Nat.mul_sub, Nat.mul_one]
      have hBle : B2 ≤ B2 * g := Nat.le_mul_of_pos_right _ hg1
      refine ref01_Sub_s wP wB (by unfold SM; omega) (by unfold SM; omega) (fun hh => ?_) (fun _ => ?_)
      · rw [vP, vB] at hh; omega
      · rw [vP, vB, wrap_u64_id (m := (g : Int) - 1) (by omega) (by omega), ← hmul]
        refine ⟨⟨g - 1, ?_, by omega, ?_⟩, by dsimp only; omega⟩
        · have : (g : Int) - 1 = ((g - 1 : Nat) : Int) := by omega
          rw [this]
        · have : g - 1 + 1 = g := by omega
          rw [this, Nat.mul_comm]; exact hgt'
    · have hle' : B2 * g ≤ R := by
        rcases Nat.lt_or_ge R (B2 * g) with hh | hh
        · exact absurd (cmpv_gt.2 hh) hle
        · exact hh
      refine ref01_Sub_s wR wP (by unfold SM; omega) (by unfold SM; omega) (fun hh => ?_) (fun _ => ?_)
      · rw [vP, vR] at hh; omega
      · rw [vP, vR, wrap_u32, set_nat]
        have hgm : (g : Int) % 4294967296 = g := by omega
        rw [hgm]
        have hRlt : R - B2 * g < B2 := by rw [Nat.add_mul, Nat.mul_comm g] at hgU; omega
        have hqil : i < q.length := by omega
        refine ⟨⟨by omega, by omega⟩, by unfold rng; omega, ⟨i, .inl rfl, by omega, lim_words _, ?_, ?_, by simp [hql], hqw.set _ (by omega) (by omega), fun k hk => ?_, ?_⟩, by dsimp only; omega⟩
        · show (lim (R - B2 * g)).length ≤ m + 1
          exact lim_len_lt (by omega)
        · show val (lim (R - B2 * g)) < B2
          rw [val_lim]; exact hRlt
        · show (q.set i _).getD k 0 = 0
          rw [getD_set_of_ne (by omega)]; exact hqz k (by omega)
        · show (A2 : Int) = pv (q.set i (g : Int)) L * B2 + val (lim (R - B2 * g)) * 4294967296 ^ i + pv al i
          rw [val_lim, pv_set_full hqil L (by omega), hqz i (by omega), Int.sub_zero, hsum, Int.add_mul, pv, Int.pow_succ]
          have k1 : ((R - B2 * g : Nat) : Int) = (R : Int) - B2 * g := by rw [Int.natCast_sub hle']; simp
          have k2 : ((R : Int) - B2 * g) * 4294967296 ^ i = R * 4294967296 ^ i - g * 4294967296 ^ i * B2 := by
            generalize (4294967296 : Int) ^ i = z
            grind
          have k3 : (R : Int) * 4294967296 ^ i = al.getD i 0 * 4294967296 ^ i + val r * (4294967296 ^ i * 4294967296) := by
            rw [hRv, Int.add_mul, Int.mul_comm 4294967296 (val r : Int), Int.mul_assoc, Int.mul_comm 4294967296]
          rw [k1, k2, k3]
          omega
  · obtain rfl : j = 0 := by omega
    have hq1 := val_pv hqw
    rw [hql] at hq1
    simp only [pv, Int.pow_zero, Int.mul_one, Int.add_zero] at hsum
    rw [← hq1] at hsum
    have hsumN : A2 = val q * B2 + val r := by
      have : ((A2 : Nat) : Int) = ((val q * B2 + val r : Nat) : Int) := by rw [Int.natCast_add, Int.natCast_mul]; exact hsum
      omega
    have hps' : 0 < 2 ^ s := Nat.pow_pos (by omega)
    have hdiv : A / B = val q := by
      have k1 : A * 2 ^ s / (B * 2 ^ s) = A / B := Nat.mul_div_mul_right _ _ hps'
      rw [← k1, ← hA2, ← hB2, hsumN, Nat.add_comm, Nat.add_mul_div_right _ _ hB20, Nat.div_eq_of_lt hrB]; omega
    have hmod : A % B = val r / 2 ^ s := by
      have k1 : A * 2 ^ s % (B * 2 ^ s) = A % B * 2 ^ s := Nat.mul_mod_mul_right _ _ _
      rw [← hA2, ← hB2, hsumN, Nat.add_comm, Nat.add_mul_mod_self_right, Nat.mod_eq_of_lt hrB] at k1
      rw [k1, Nat.mul_div_cancel _ hps']
    refine ref01_Trim_s hqw (by unfold SM; omega) (ref01_down_s hrw (by unfold SM; omega) (by omega) ?_)
    rw [← hmod, ← hdiv]
    exact h

theorem ref01_Gcd_s {a b : List Int} {Q : List Int → Prop} (ha : Words a) (hb : Words b) (la : a.length ≤ 1099511627760) (lb : b.length ≤ 1099511627760) (h : Q (lim (Nat.gcd (val a) (val b)))) : ref01_Gcd_W a b Q := by
  refine ref01_Trim_s ha (by unfold SM; omega) (ref01_Trim_s hb (by unfold SM; omega) ?_)
  have b1 := lim_len_le ha
  have b2 := lim_len_le hb
  refine ⟨fun y => ∃ m n : Nat, y = (lim m, lim n) ∧ (lim m).length ≤ 1099511627760 ∧ (lim n).length ≤ 1099511627760 ∧ Nat.gcd m n = Nat.gcd (val a) (val b), fun y => val y.2, ⟨_, _, rfl, by omega, by omega, rfl⟩, ?_⟩
  rintro _ ⟨m, n, rfl, hm, hn, hg⟩
  refine condT (fun hc => ?_) (fun hc => ?_)
  · have hn0 : n ≠ 0 := by rintro rfl; rw [lim_zero] at hc; simp at hc
    refine ref01_Div_s (lim_words m) (lim_words n) hm hn (fun h0 => absurd (by rw [val_lim] at h0; exact h0) hn0) (fun _ => ?_)
    rw [val_lim, val_lim]
    have hlt := Nat.mod_lt m (Nat.pos_of_ne_zero hn0)
    refine ⟨⟨n, m % n, rfl, hn, Nat.le_trans (lim_len_mono (Nat.le_of_lt hlt)) hn, ?_⟩, ?_⟩
    · rw [← hg, Nat.gcd_comm n, ← Nat.gcd_rec, Nat.gcd_comm]
    · show val (lim (m % n)) < val (lim n)
      rw [val_lim, val_lim]; exact hlt
  · have hn0 : n = 0 := by
      rcases Nat.eq_zero_or_pos n with h0 | h0
      · exact h0
      · rw [lim_pos h0] at hc; simp at hc
    subst hn0
    rw [Nat.gcd_zero_right] at hg
    rw [← hg] at h
    exact h
end Go.Gg
