/- What the functions on natural numbers compute, told of their formulas: part E: long division, the greatest common divisor. Conditions: none. -/
import Derived.Test.YtonbnfgknijpoaaNatD
namespace Go.Gg

theorem pow2_split {a b c : Nat} (h : a + b = c) : (2 : Int) ^ a * 2 ^ b = 2 ^ c := by rw [← Int.pow_add, h]
theorem knuth_up {V P B top nx vl head th pl g : Int} (hV : V = (top * 4294967296 + nx) * B + vl) (hvl : 0 ≤ vl) (hP : P = (head * 4294967296 + th) * B + pl) (hpl : pl < B) (hB : 0 < B) (hg : 0 ≤ g)
    (h : head * 4294967296 + th < g * (top * 4294967296 + nx)) : P < g * V := by
  have h1 : (head * 4294967296 + th + 1) * B ≤ g * (top * 4294967296 + nx) * B := Int.mul_le_mul_of_nonneg_right (by omega) (by omega)
  have h2 : 0 ≤ g * vl := Int.mul_nonneg hg hvl
  rw [hV, Int.mul_add, ← Int.mul_assoc]
  rw [Int.add_mul] at h1
  omega
theorem knuth_lo {V P B top nx vl head th pl g : Int} (hV : V = (top * 4294967296 + nx) * B + vl) (hvl0 : 0 ≤ vl) (hvl : vl < B) (hP : P = (head * 4294967296 + th) * B + pl) (hpl : 0 ≤ pl) (hg0 : 0 ≤ g) (hg : g < 4294967296) (hVB : 4294967296 * B ≤ V)
    (h : g * (top * 4294967296 + nx) ≤ head * 4294967296 + th) : (g - 1) * V ≤ P := by
  have h1 : g * (top * 4294967296 + nx) * B ≤ (head * 4294967296 + th) * B := Int.mul_le_mul_of_nonneg_right h (by omega)
  have h2 : g * vl ≤ 4294967296 * B := Int.mul_le_mul (by omega) (by omega) hvl0 (by omega)
  rw [Int.sub_mul, hV, Int.mul_add, ← Int.mul_assoc]
  rw [← hV]
  omega
theorem pv_split {l : List Int} {i : Nat} : ∀ n, pv l (i + n) = pv l i + pv (l.drop i) n * 4294967296 ^ i
  | 0 => by simp [pv]
  | n + 1 => by
    rw [← Nat.add_assoc, pv, pv_split n, pv, getD_drop, Int.add_mul, Int.pow_add, Int.mul_assoc (l.getD (i + n) 0), Int.mul_comm (4294967296 ^ n)]
    omega
theorem pv_part {l m : List Int} {i n : Nat} (h : ∀ k, k < i ∨ i + n ≤ k → l.getD k 0 = m.getD k 0) : ∀ M, i + n ≤ M → pv l M - pv m M = (pv (l.drop i) n - pv (m.drop i) n) * 4294967296 ^ i
  | 0, hM => by
    have h1 : i = 0 := by omega
    have h2 : n = 0 := by omega
    subst h1 h2
    simp [pv]
  | M + 1, hM => by
    by_cases he : i + n = M + 1
    · rw [← he, pv_split, pv_split, pv_congr i (fun k hk => h k (.inl hk)), Int.sub_mul]; omega
    · rw [pv, pv, h M (.inr (by omega))]
      have := pv_part h M (by omega)
      omega
theorem lim_len_pow {n : Nat} (h : n ≠ 0) : 4294967296 ^ ((lim n).length - 1) ≤ n := by
  induction n using Nat.strongRecOn with
  | _ n ih =>
    rw [lim_pos (by omega)]
    simp only [List.length_cons, Nat.add_sub_cancel]
    by_cases h0 : n / 4294967296 = 0
    · rw [h0, lim_zero]; simp; omega
    · have h1 := ih _ (Nat.div_lt_self (by omega) (by omega)) h0
      have h2 : (lim (n / 4294967296)).length ≠ 0 := by rw [lim_pos (by omega)]; simp
      have e : (lim (n / 4294967296)).length = (lim (n / 4294967296)).length - 1 + 1 := by omega
      rw [e, Nat.pow_succ]
      have : 4294967296 ^ ((lim (n / 4294967296)).length - 1) * 4294967296 ≤ n / 4294967296 * 4294967296 := Nat.mul_le_mul_right _ h1
      omega
theorem lim_top {n : Nat} (h : n ≠ 0) : (lim n).getD ((lim n).length - 1) 0 ≠ 0 := by
  induction n using Nat.strongRecOn with
  | _ n ih =>
    rw [lim_pos (by omega)]
    simp only [List.length_cons, Nat.add_sub_cancel]
    by_cases h0 : n / 4294967296 = 0
    · rw [h0, lim_zero]; simp; omega
    · have h1 := ih _ (Nat.div_lt_self (by omega) (by omega)) h0
      have h2 : (lim (n / 4294967296)).length ≠ 0 := by rw [lim_pos (by omega)]; simp
      obtain ⟨k, hk⟩ : ∃ k, (lim (n / 4294967296)).length = k + 1 := ⟨_, (Nat.succ_pred_eq_of_ne_zero h2).symm⟩
      rw [hk] at h1 ⊢
      simpa using h1

/-- The estimate of a digit. -/
theorem guess_loop {top nx hd1 hd2 th V P B vl pl : Int} {next3 : Int → Prop} {G1 G2 G3 : Prop} (hG1 : G1) (hG2 : G2) (hG3 : G3) (htop0 : 2147483648 ≤ top) (htop : top < 4294967296) (hnx : 0 ≤ nx ∧ nx < 4294967296) (h1 : 0 ≤ hd1 ∧ hd1 ≤ top) (h2 : 0 ≤ hd2 ∧ hd2 < 4294967296) (h3 : 0 ≤ th ∧ th < 4294967296)
    (hV : V = (top * 4294967296 + nx) * B + vl) (hvl : 0 ≤ vl ∧ vl < B) (hP : P = ((hd1 * 4294967296 + hd2) * 4294967296 + th) * B + pl) (hpl : 0 ≤ pl ∧ pl < B) (hB : 0 < B) (hPV : P < V * 4294967296)
    (hn : ∀ g, 0 ≤ g → g < 4294967296 → P < (g + 1) * V → (g - 1) * V ≤ P → next3 g) :
    loopW (σ := Int × Int) (IntKind.u64.wrap (Int.tdiv (hd1 * 4294967296 + hd2) top), Int.tmod (hd1 * 4294967296 + hd2) top) fun ⟨guess2, rest⟩ next4 =>
      joinW (α := Unit) (fun next5 => condW (decide (4294967296 ≤ guess2)) (next5 ()) (G1 ∧ G2 ∧ G3 ∧ condW (decide (bits .or .u64 (IntKind.u64.wrap (rest * 4294967296)) th < IntKind.u64.wrap (guess2 * nx))) (next5 ()) (next3 guess2)))
        fun _ => setW (IntKind.u64.wrap (rest + top)) fun rest1 => condW (decide (4294967296 ≤ rest1)) (next3 (IntKind.u64.wrap (guess2 - 1))) (next4 (IntKind.u64.wrap (guess2 - 1), rest1)) := by
  have hhd0 : 0 ≤ hd1 * 4294967296 + hd2 := by omega
  have hVB : 4294967296 * B ≤ V := by
    have : 4294967296 * B ≤ (top * 4294967296 + nx) * B := Int.mul_le_mul_of_nonneg_right (by omega) (by omega)
    omega
  generalize hhd : hd1 * 4294967296 + hd2 = head at *
  have hhead : head ≤ top * 4294967296 + 4294967295 := by omega
  have hq0 : 0 ≤ head / top := Int.ediv_nonneg hhd0 (by omega)
  have hr0 : 0 ≤ head % top := Int.emod_nonneg _ (by omega)
  have hr1 : head % top < top := Int.emod_lt_of_pos _ (by omega)
  have hde : head = top * (head / top) + head % top := (Int.mul_ediv_add_emod head top).symm
  have hqu : head / top < 4294967298 := by
    rw [Int.ediv_lt_iff_lt_mul (by omega)]; omega
  rw [Int.tdiv_eq_ediv_of_nonneg hhd0, Int.tmod_eq_emod_of_nonneg hhd0, wrap_u64_id hq0 (by omega)]
  refine ⟨fun y => 0 ≤ y.1 ∧ y.1 < 4294967298 ∧ 0 ≤ y.2 ∧ y.2 < 4294967296 ∧ head = y.1 * top + y.2 ∧ P < (y.1 + 1) * V, fun y => y.1.toNat, ⟨hq0, hqu, hr0, by show head % top < _; omega, by show head = head / top * top + head % top; rw [Int.mul_comm]; exact hde, ?_⟩, ?_⟩
  · show P < (head / top + 1) * V
    refine knuth_up hV hvl.1 hP hpl.2 hB (by omega) ?_
    -- head < (q + 1) top
    have a1 : (head / top + 1) * top = top * (head / top) + top := by rw [Int.add_mul, Int.mul_comm]; omega
    have a2 : (head / top + 1) * (top * 4294967296 + nx) = (head / top + 1) * top * 4294967296 + (head / top + 1) * nx := by rw [Int.mul_add, Int.mul_assoc]
    have a3 : 0 ≤ (head / top + 1) * nx := Int.mul_nonneg (by omega) hnx.1
    omega
  rintro ⟨g, r⟩ ⟨hg0, hg1, hr0, hr1, hh, hU⟩
  simp only at hg0 hg1 hr0 hr1 hh hU
  have hexp : g * (top * 4294967296 + nx) = (g * top) * 4294967296 + g * nx := by rw [Int.mul_add, Int.mul_assoc]
  refine ⟨fun _ => P < g * V, condT (fun hc => ?_) (fun hc => ⟨hG1, hG2, hG3, ?_⟩), fun _ hlt => ?_⟩
  · have : V * 4294967296 ≤ g * V := by rw [Int.mul_comm V]; exact Int.mul_le_mul_of_nonneg_right hc (by omega)
    omega
  · have hgn0 : 0 ≤ g * nx := Int.mul_nonneg hg0 hnx.1
    have hgn1 : g * nx ≤ 4294967295 * 4294967295 := Int.mul_le_mul (by omega) (by omega) hnx.1 (by omega)
    rw [wrap_u64_id (m := r * 4294967296) (by omega) (by omega), wrap_u64_id hgn0 (by omega), or_u64 32 h3.1 h3.2 (by omega) (by show _ % 4294967296 = 0; omega) (by omega)]
    refine condT (fun hgt => ?_) (fun hle => ?_)
    · exact knuth_up hV hvl.1 hP hpl.2 hB hg0 (by omega)
    · exact hn g hg0 (by omega) hU (knuth_lo hV hvl.1 hvl.2 hP hpl.1 hg0 (by omega) hVB (by omega))
  · have hg1' : 1 ≤ g := by
      rcases Int.lt_or_le g 1 with h | h
      · have : g = 0 := by omega
        subst this
        have hP0 : 0 ≤ P := by
          rw [hP]
          have : 0 ≤ (head * 4294967296 + th) * B := Int.mul_nonneg (by omega) (by omega)
          omega
        simp at hlt; omega
      · exact h
    rw [wrap_u64_id (m := r + top) (by omega) (by omega), wrap_u64_id (m := g - 1) (by omega) (by omega)]
    have hsub : (g - 1) * top = g * top - top := by rw [Int.sub_mul]; omega
    have hexp2 : (g - 1) * (top * 4294967296 + nx) = ((g - 1) * top) * 4294967296 + (g - 1) * nx := by rw [Int.mul_add, Int.mul_assoc]
    refine letIn (condT (fun hc => ?_) (fun hc => ⟨⟨by show 0 ≤ g - 1; omega, by show g - 1 < _; omega, by show 0 ≤ r + top; omega, by show r + top < _; omega, by show head = (g - 1) * top + (r + top); omega, by show P < (g - 1 + 1) * V; rw [Int.sub_add_cancel]; exact hlt⟩, by show (g - 1).toNat < g.toNat; omega⟩))
    have hgW : g - 1 < 4294967296 := by
      rcases Int.lt_or_le (g - 1) 4294967296 with h | h
      · exact h
      · have : 4294967296 * top ≤ (g - 1) * top := Int.mul_le_mul_of_nonneg_right h (by omega)
        omega
    have hgn1 : (g - 1) * nx ≤ 4294967295 * 4294967295 := Int.mul_le_mul (by omega) (by omega) hnx.1 (by omega)
    refine hn (g - 1) (by omega) hgW (by rw [Int.sub_add_cancel]; exact hlt) (knuth_lo hV hvl.1 hvl.2 hP hpl.1 (by omega) hgW hVB (by omega))

set_option maxHeartbeats 2000000 in
theorem natural_Div_s {a b : List Int} {Q : List Int → List Int → Option Int → Prop} (ha : Words a) (hb : Words b) (la : a.length ≤ 1099511627774) (lb : b.length ≤ 1099511627774)
    (h0 : val b = 0 → Q [] [] (some 8)) (h : val b ≠ 0 → Q (lim (val a / val b)) (lim (val a % val b)) none) : natural_Div_W a b Q := by
  refine natural_trim_s ha (by unfold SM; omega) (natural_trim_s hb (by unfold SM; omega) ?_)
  have b1 := lim_len_le ha
  have b2 := lim_len_le hb
  have w1 := lim_words (val a)
  have w2 := lim_words (val b)
  have v1 := val_lim (val a)
  have v2 := val_lim (val b)
  refine condE (fun hc => ?_) (fun hc => ?_)
  · have : (lim (val b)).length = 0 := by omega
    have : lim (val b) = [] := List.eq_nil_of_length_eq_zero this
    rw [this, val_nil] at v2
    exact h0 v2.symm
  have hB : val b ≠ 0 := by intro hh; rw [hh, lim_zero] at hc; exact hc rfl
  replace h := h hB
  clear h0
  refine natural_Cmp_s w1 w2 (by unfold SM; omega) (by unfold SM; omega) ?_
  rw [v1, v2]
  refine condT (fun hlt => ?_) (fun hge => condE (fun h1 => ?_) (fun h1 => ?_))
  · have := cmpv_lt.1 hlt
    rw [Nat.div_eq_of_lt this, Nat.mod_eq_of_lt this, lim_zero] at h
    exact h
  · -- one word
    have hl1 : (lim (val b)).length = 1 := by omega
    have hw0 := w2 0
    have hbv : (val b : Int) = (lim (val b)).getD 0 0 := by
      have := val_pv w2
      rw [v2, hl1] at this
      simpa [pv] using this
    refine ⟨⟨by omega, by omega⟩, ?_⟩
    have e0 : at' (lim (val b)) 0 = (val b : Int) := by rw [hbv]; rfl
    rw [e0]
    have hm : val a % val b < val b := Nat.mod_lt _ (by omega)
    refine natural_small_s w1 (by unfold SM; omega) (by omega) (by omega) ?_
    rw [v1, Int.toNat_natCast, rng_wrap (by unfold rng; omega)]
    refine natural_Of_s (by omega) ?_
    rw [Int.toNat_natCast]
    exact h
  -- long division
  obtain ⟨m, hm⟩ : ∃ m, (lim (val b)).length = m + 2 := ⟨(lim (val b)).length - 2, by omega⟩
  have hge' : val b ≤ val a := by
    rcases Nat.lt_or_ge (val a) (val b) with hh | hh
    · exact absurd (cmpv_lt.2 hh) hge
    · exact hh
  have hlen : m + 2 ≤ (lim (val a)).length := by rw [← hm]; exact lim_len_mono hge'
  generalize hA : val a = A at *
  generalize hBv : val b = B at *
  have htop := lim_top hB
  have hbd : (val (lim B) : Int) = _ := val_pv w2
  rw [v2] at hbd
  have hAp : (A : Int) < 4294967296 ^ (lim A).length := by
    have := (pv_bound w1 (lim A).length).2
    have e := val_pv w1
    rw [v1] at e; omega
  generalize hla : lim A = al at *
  generalize hlb : lim B = bl at *
  rw [hm] at htop hbd
  have e21 : m + 2 - 1 = m + 1 := by omega
  rw [e21] at htop
  have hwt := w2 (m + 1)
  have hml : (bl.length : Int) - 1 = ((m + 1 : Nat) : Int) := by omega
  rw [hml]
  obtain ⟨tp, htp⟩ : ∃ x : Nat, bl.getD (m + 1) 0 = x := ⟨(bl.getD (m + 1) 0).toNat, by omega⟩
  refine ⟨by unfold rng; omega, ⟨by omega, by omega⟩, ?_⟩
  rw [at_nat, htp]
  rw [htp] at htop hwt
  have htp0 : tp ≠ 0 := by omega
  have c1 := blen_lt (n := tp)
  have c2 := blen_le htp0
  have c3 := blen_le32 (x := tp) (by omega)
  have c4 : blen tp ≠ 0 := by unfold blen; rw [if_neg htp0]; omega
  refine lz32_s (by omega) ?_
  obtain ⟨s, hs⟩ : ∃ s, 32 - blen tp = s := ⟨_, rfl⟩
  rw [hs]
  have hs31 : s ≤ 31 := by omega
  -- the divisor, shifted
  refine natural_left_s w2 (by omega) (by omega) (fun r4 hr4 hr4l hr4v => ?_)
  rw [hm] at hr4l
  rw [v2] at hr4v
  refine ⟨⟨by omega, by omega, by omega⟩, letIn ?_⟩
  have hvl : (sub' r4 0 (bl.length : Int)) = r4.take (m + 2) := by
    show (r4.drop 0).take (((bl.length : Nat) : Int).toNat - 0) = _
    rw [Int.toNat_natCast, hm]; rfl
  rw [hvl]
  have hvlen : (r4.take (m + 2)).length = m + 2 := by rw [List.length_take, hr4l]; omega
  -- B 2^s lies from 2^(32 (m+2)) / 2 to 2^(32 (m+2))
  have hPm := pow_pos_w m
  have ew : (4294967296 : Int) ^ (m + 2) = 4294967296 ^ m * 4294967296 * 4294967296 := by rw [Int.pow_succ, Int.pow_succ]
  have ew1 : (4294967296 : Int) ^ (m + 1) = 4294967296 ^ m * 4294967296 := Int.pow_succ ..
  have hbd2 : (B : Int) = pv bl m + bl.getD m 0 * 4294967296 ^ m + tp * (4294967296 ^ m * 4294967296) := by rw [hbd, pv, pv, htp, ew1]
  have hbm := pv_bound w2 m
  have hbm1 := w2 m
  have hlow : bl.getD m 0 * 4294967296 ^ m ≤ 4294967295 * 4294967296 ^ m := Int.mul_le_mul_of_nonneg_right (by omega) (by omega)
  have hlow0 : 0 ≤ bl.getD m 0 * 4294967296 ^ m := Int.mul_nonneg hbm1.1 (by omega)
  have hps := pow2_pos s
  have hts : (tp : Int) * 2 ^ s < 4294967296 ∧ 2147483648 ≤ (tp : Int) * 2 ^ s := by
    have e1 : (2 : Int) ^ (blen tp) * 2 ^ s = 4294967296 := pow2_split (c := 32) (by omega)
    have e2 : (2 : Int) ^ (blen tp - 1) * 2 ^ s = 2147483648 := pow2_split (c := 31) (by omega)
    have f1 : (tp : Int) + 1 ≤ 2 ^ (blen tp) := by exact_mod_cast c1
    have f2 : (2 : Int) ^ (blen tp - 1) ≤ tp := by exact_mod_cast c2
    have g1 : ((tp : Int) + 1) * 2 ^ s ≤ 2 ^ (blen tp) * 2 ^ s := Int.mul_le_mul_of_nonneg_right f1 (by omega)
    have g2 : (2 : Int) ^ (blen tp - 1) * 2 ^ s ≤ tp * 2 ^ s := Int.mul_le_mul_of_nonneg_right f2 (by omega)
    rw [Int.add_mul] at g1
    omega
  have hVval : ((val r4 : Nat) : Int) = (B : Int) * 2 ^ s := by rw [hr4v]; simp
  have hr4p := val_pv hr4
  rw [hr4l] at hr4p
  have hVlt : (val r4 : Int) < 4294967296 ^ (m + 2) := by
    -- (tp + 1) 2^s W^(m+1) <= W^(m+2)
    have k1 : (B : Int) + 1 ≤ (tp + 1) * (4294967296 ^ m * 4294967296) := by rw [Int.add_mul]; omega
    have k2 : ((B : Int) + 1) * 2 ^ s ≤ ((tp + 1) * (4294967296 ^ m * 4294967296)) * 2 ^ s := Int.mul_le_mul_of_nonneg_right k1 (by omega)
    have k3 : (((tp : Int) + 1) * 2 ^ s) ≤ 4294967296 := by
      have f1 : (tp : Int) + 1 ≤ 2 ^ (blen tp) := by exact_mod_cast c1
      have e1 : (2 : Int) ^ (blen tp) * 2 ^ s = 4294967296 := pow2_split (c := 32) (by omega)
      have g1 : ((tp : Int) + 1) * 2 ^ s ≤ 2 ^ (blen tp) * 2 ^ s := Int.mul_le_mul_of_nonneg_right f1 (by omega)
      omega
    have k4 : (((tp : Int) + 1) * 2 ^ s) * (4294967296 ^ m * 4294967296) ≤ 4294967296 * (4294967296 ^ m * 4294967296) := Int.mul_le_mul_of_nonneg_right k3 (by omega)
    rw [Int.mul_right_comm] at k2
    rw [Int.add_mul] at k2
    rw [hVval, ew]
    omega
  have hVge : 2147483648 * (4294967296 ^ m * 4294967296) ≤ (val r4 : Int) := by
    have k1 : (tp : Int) * (4294967296 ^ m * 4294967296) ≤ B := by omega
    have k2 : (tp : Int) * (4294967296 ^ m * 4294967296) * 2 ^ s ≤ B * 2 ^ s := Int.mul_le_mul_of_nonneg_right k1 (by omega)
    have k3 : 2147483648 * (4294967296 ^ m * 4294967296) ≤ (tp : Int) * 2 ^ s * (4294967296 ^ m * 4294967296) := Int.mul_le_mul_of_nonneg_right hts.2 (by omega)
    rw [Int.mul_right_comm] at k2
    omega
  -- the highest word of the shifted divisor is zero
  have hVp : (val r4 : Int) = pv (r4.take (m + 2)) (m + 2) := by
    rw [hr4p] at hVlt ⊢
    rw [pv_take (Nat.le_refl _)]
    exact pv_high hr4 (by omega) hVlt
  have hwv : Words (r4.take (m + 2)) := hr4.take _
  have hvv : val (r4.take (m + 2)) = val r4 := by
    have := val_pv hwv
    rw [hvlen, ← hVp] at this; omega
  generalize hv : r4.take (m + 2) = v at *
  generalize hVV : val r4 = V at *
  clear hr4 hr4l hr4p hvl
  -- the dividend, shifted
  refine natural_left_s w1 (by omega) (by omega) (fun u hu hul huv => ?_)
  rw [v1] at huv
  have hvl1 : (v.length : Int) - 1 = ((m + 1 : Nat) : Int) := by omega
  have hvl2 : (v.length : Int) - 2 = (m : Int) := by omega
  obtain ⟨K, hK⟩ : ∃ K, al.length = K + (m + 2) := ⟨al.length - (m + 2), by omega⟩
  have hkl : (u.length : Int) - (v.length : Int) = ((K + 1 : Nat) : Int) := by omega
  rw [hvl1, hvl2, hkl]
  refine ⟨by unfold rng; omega, ⟨by omega, by omega⟩, by unfold rng; omega, ⟨by omega, by omega⟩, by unfold rng; omega, mk_ok (by omega) (by omega), by unfold rng; omega, letIn ?_⟩
  rw [Int.toNat_natCast]
  have hU : (val u : Int) < V * 4294967296 ^ (K + 1) := by
    have k0 : ((val u : Nat) : Int) = (A : Int) * 2 ^ s := by rw [huv]; simp
    have k1 : (2 : Int) ^ s ≤ 2147483648 := by
      have : (2 : Int) ^ s * 2 ^ (31 - s) = 2147483648 := pow2_split (c := 31) (by omega)
      have h2 := pow2_pos (31 - s)
      have : (2 : Int) ^ s * 1 ≤ 2 ^ s * 2 ^ (31 - s) := Int.mul_le_mul_of_nonneg_left (by omega) (by omega)
      omega
    have k2 : (A : Int) * 2 ^ s < 4294967296 ^ al.length * 2 ^ s := Int.mul_lt_mul_of_pos_right hAp hps
    have k3 : (4294967296 : Int) ^ al.length * 2 ^ s ≤ 4294967296 ^ al.length * 2147483648 := Int.mul_le_mul_of_nonneg_left k1 (by have := pow_pos_w al.length; omega)
    have k4 : (4294967296 : Int) ^ al.length = 4294967296 ^ m * 4294967296 * 4294967296 ^ (K + 1) := by
      rw [hK, ← Int.pow_succ, ← Int.pow_add]; congr 1; omega
    rw [k4] at k2 k3
    have k6 : (2147483648 : Int) * (4294967296 ^ m * 4294967296 * 4294967296 ^ (K + 1)) = 4294967296 ^ m * 4294967296 * 4294967296 ^ (K + 1) * 2147483648 := Int.mul_comm _ _
    have k7 : (2147483648 : Int) * (4294967296 ^ m * 4294967296) * 4294967296 ^ (K + 1) = 2147483648 * (4294967296 ^ m * 4294967296 * 4294967296 ^ (K + 1)) := Int.mul_assoc ..
    have hPK := pow_pos_w (K + 1)
    have k8 : (2147483648 : Int) * (4294967296 ^ m * 4294967296) * 4294967296 ^ (K + 1) ≤ (V : Int) * 4294967296 ^ (K + 1) := Int.mul_le_mul_of_nonneg_right hVge (Int.le_of_lt hPK)
    omega
  have hup := val_pv hu
  have hulk : u.length = K + m + 3 := by omega
  rw [hulk] at hup
  have hvm := hwv m
  have hvm1 := hwv (m + 1)
  have hVexp : (V : Int) = (v.getD (m + 1) 0 * 4294967296 + v.getD m 0) * 4294967296 ^ m + pv v m := by
    rw [hVp, pv, pv, ew1, Int.add_mul, Int.mul_assoc, Int.mul_comm 4294967296]; omega
  have hvlo := pv_bound hwv m
  have htopge : 2147483648 ≤ v.getD (m + 1) 0 := by
    rcases Int.lt_or_le (v.getD (m + 1) 0) 2147483648 with hh | hh
    · exfalso
      have k1 : (v.getD (m + 1) 0 * 4294967296 + v.getD m 0 + 1) * 4294967296 ^ m ≤ (2147483647 * 4294967296 + 4294967296) * 4294967296 ^ m := Int.mul_le_mul_of_nonneg_right (by omega) (by omega)
      rw [Int.add_mul] at k1
      omega
    · exact hh
  have hV0 : 0 < (V : Int) := by omega
  refine ⟨fun y => ∃ j : Nat, y.1 = (j : Int) - 1 ∧ j ≤ K + 1 ∧ y.2.1.length = K + m + 3 ∧ Words y.2.1 ∧ y.2.2.length = K + 1 ∧ Words y.2.2 ∧ (∀ k, k < j → y.2.2.getD k 0 = 0) ∧
      (val u : Int) = pv y.2.2 (K + 1) * V + pv y.2.1 (K + m + 3) ∧ pv y.2.1 (K + m + 3) < V * 4294967296 ^ j, fun y => (y.1 + 1).toNat,
    ⟨K + 1, rfl, Nat.le_refl _, hulk, hu, by simp [rep'], Words.rep _, fun k hk => ?_, ?_, ?_⟩, ?_⟩
  · show (List.replicate (K + 1) (0 : Int)).getD k 0 = 0
    rw [List.getD_eq_getElem?_getD, List.getElem?_replicate]; split <;> rfl
  · show (val u : Int) = pv (List.replicate (K + 1) (0 : Int)) (K + 1) * V + pv u (K + m + 3)
    rw [pv_rep, ← hup]; omega
  · show pv u (K + m + 3) < _
    rw [← hup]; exact hU
  clear hU hup hulk hul hu
  rintro ⟨x, u1, q⟩ ⟨j, hx, hj, hul1, hu1, hql, hq, hqz, hsum, hrem⟩
  simp only at hx hj hul1 hu1 hql hq hqz hsum hrem
  subst hx
  refine condT (fun hc => ?_) (fun hc => ?_)
  · obtain ⟨i, rfl⟩ : ∃ i, j = i + 1 := ⟨j - 1, by omega⟩
    have ei : ((i + 1 : Nat) : Int) - 1 = (i : Int) := by omega
    have f1 : (i : Int) + (v.length : Int) = ((i + (m + 2) : Nat) : Int) := by omega
    have f2 : ((i + (m + 2) : Nat) : Int) - 1 = ((i + (m + 1) : Nat) : Int) := by omega
    have f3 : ((i + (m + 2) : Nat) : Int) - 2 = ((i + m : Nat) : Int) := by omega
    have f4 : ((i + (m + 2) : Nat) : Int) + 1 = ((i + (m + 3) : Nat) : Int) := by omega
    have f5 : 0 + Int.toNat (i : Int) = i := by omega
    have f6 : Int.toNat ((i + (m + 3) : Nat) : Int) - Int.toNat (i : Int) = m + 3 := by omega
    have h1 := hu1 (i + (m + 2))
    have h2 := hu1 (i + (m + 1))
    have h3 := hu1 (i + m)
    have e32 : (2 : Int) ^ Int.toNat 32 = 4294967296 := rfl
    have g1 := wrap_u64_id (m := u1.getD (i + (m + 2)) 0) (by omega) (by omega)
    have g2 := wrap_u64_id (m := u1.getD (i + (m + 1)) 0) (by omega) (by omega)
    have g3 := wrap_u64_id (m := u1.getD (i + m) 0) (by omega) (by omega)
    have g4 := wrap_u64_id (m := v.getD (m + 1) 0) (by omega) (by omega)
    have g5 := wrap_u64_id (m := v.getD m 0) (by omega) (by omega)
    have g6 := wrap_u64_id (m := u1.getD (i + (m + 2)) 0 * 4294967296) (by omega) (by omega)
    have g7 := or_u64 (x := u1.getD (i + (m + 1)) 0) (y := u1.getD (i + (m + 2)) 0 * 4294967296) 32 h2.1 h2.2 (by omega) (by show _ % 4294967296 = 0; omega) (by omega)
    simp only [ei, f1, f2, f3, f4, f5, f6, at_nat, e32, g1, g2, g3, g4, g5, g6, g7]
    -- the part that is divided
    obtain ⟨P, hPd⟩ : ∃ P, P = pv (u1.drop i) (m + 3) := ⟨_, rfl⟩
    have hPi := pow_pos_w i
    have hud : Words (u1.drop i) := hu1.drop i
    have hPb := pv_bound hud (m + 3)
    have htot : pv u1 (K + m + 3) = pv u1 i + P * 4294967296 ^ i := by
      have k0 : K + m + 3 = i + ((m + 3) + (K - i)) := by omega
      rw [k0, pv_split]
      congr 2
      rw [hPd]
      refine pv_high hud (by omega) ?_
      rw [k0, pv_split, Int.pow_succ] at hrem
      have k1 := (pv_bound hu1 i).1
      have k2 : pv (u1.drop i) (m + 3 + (K - i)) * 4294967296 ^ i < (V * 4294967296) * 4294967296 ^ i := by
        rw [Int.mul_assoc, Int.mul_comm 4294967296]; omega
      have k3 := Int.lt_of_mul_lt_mul_right k2 (Int.le_of_lt hPi)
      have k4 : (4294967296 : Int) ^ (m + 3) = 4294967296 ^ (m + 2) * 4294967296 := Int.pow_succ ..
      omega
    have hPV : P < V * 4294967296 := by
      have k1 := (pv_bound hu1 i).1
      rw [htot, Int.pow_succ] at hrem
      have k2 : P * 4294967296 ^ i < (V * 4294967296) * 4294967296 ^ i := by
        rw [Int.mul_assoc, Int.mul_comm 4294967296]; omega
      exact Int.lt_of_mul_lt_mul_right k2 (Int.le_of_lt hPi)
    have hP0 : 0 ≤ P := by rw [hPd]; exact hPb.1
    have hPexp : P = ((u1.getD (i + (m + 2)) 0 * 4294967296 + u1.getD (i + (m + 1)) 0) * 4294967296 + u1.getD (i + m) 0) * 4294967296 ^ m + pv (u1.drop i) m := by
      rw [hPd, pv, pv, pv, getD_drop, getD_drop, getD_drop, ew, ew1]
      generalize (4294967296 : Int) ^ m = B
      generalize pv (u1.drop i) m = z
      grind
    have hhd : u1.getD (i + (m + 2)) 0 ≤ v.getD (m + 1) 0 := by
      rcases Int.lt_or_le (v.getD (m + 1) 0) (u1.getD (i + (m + 2)) 0) with hh | hh
      · exfalso
        have k1 : (v.getD (m + 1) 0 + 1) * (4294967296 ^ m * 4294967296 * 4294967296) ≤ u1.getD (i + (m + 2)) 0 * (4294967296 ^ m * 4294967296 * 4294967296) := Int.mul_le_mul_of_nonneg_right (by omega) (by omega)
        have k2 : P = u1.getD (i + (m + 2)) 0 * (4294967296 ^ m * 4294967296 * 4294967296) + pv (u1.drop i) (m + 2) := by rw [hPd, pv, getD_drop, ew]; omega
        have k3 := (pv_bound hud (m + 2)).1
        have k4 : (V : Int) = v.getD (m + 1) 0 * (4294967296 ^ m * 4294967296) + pv v (m + 1) := by rw [hVp, pv, ew1]; omega
        have k5 := (pv_bound hwv (m + 1)).2
        rw [ew1] at k5
        have k6 : (V : Int) * 4294967296 < (v.getD (m + 1) 0 + 1) * (4294967296 ^ m * 4294967296 * 4294967296) := by
          rw [Int.add_mul, ← Int.mul_assoc (v.getD (m + 1) 0), k4]; omega
        omega
      · exact hh
    refine ⟨by unfold rng; omega, ⟨by omega, by omega⟩, by unfold rng; omega, by unfold rng; omega, ⟨by omega, by omega⟩, by omega, by omega, fun g => 0 ≤ g ∧ g < 4294967296 ∧ P < (g + 1) * V ∧ (g - 1) * V ≤ P,
      guess_loop (next3 := fun g => 0 ≤ g ∧ g < 4294967296 ∧ P < (g + 1) * V ∧ (g - 1) * V ≤ P) (G1 := rng ((i + (m + 2) : Nat) : Int)) (G2 := rng ((i + m : Nat) : Int)) (G3 := (0 : Int) ≤ ((i + m : Nat) : Int) ∧ ((i + m : Nat) : Int) < (u1.length : Int)) (by unfold rng; omega) (by unfold rng; omega) ⟨by omega, by omega⟩ htopge hvm1.2 hvm ⟨h1.1, hhd⟩ h2 h3 hVexp hvlo hPexp (pv_bound hud m) hPm hPV (fun g a1 a2 a3 a4 => ⟨a1, a2, a3, a4⟩), ?_⟩
    rintro g ⟨hg0, hg1, hgU, hgL⟩
    have hPW : (4294967296 : Int) ^ (m + 3) = 4294967296 ^ (m + 2) * 4294967296 := Int.pow_succ ..
    refine ⟨fun y => Words y.2 ∧ y.2.length = K + m + 3 ∧ (∀ k, k < i ∨ i + (m + 3) ≤ k → y.2.getD k 0 = u1.getD k 0) ∧ 0 ≤ y.1 ∧ y.1 < 4294967296 ∧ pv (y.2.drop i) (m + 3) = P - y.1 * V ∧ P - y.1 * V < V, ?_, ?_⟩
    · refine ⟨by unfold rng; omega, by unfold rng; omega, ⟨by omega, by omega, by omega⟩, ?_⟩
      refine natural_take_s hu1 hwv (by unfold SM; omega) (by omega) (by omega) hg0 hg1 (fun w b hw hwl hwz hb hwp => ⟨hwl, ?_⟩)
      rw [hvv, ← hPd] at hwp
      have hwd := pv_bound (hw.drop i) (m + 3)
      have hgs : (g - 1) * (V : Int) = g * V - V := by rw [Int.sub_mul]; omega
      have hga : (g + 1) * (V : Int) = g * V + V := by rw [Int.add_mul]; omega
      rcases hb with rfl | rfl
      · refine ⟨fun hh => (by cases hh), fun _ => ⟨hw, by show w.length = _; omega, hwz, hg0, hg1, ?_, ?_⟩⟩
        · show pv (w.drop i) (m + 3) = P - g * V
          omega
        · show P - g * V < V
          omega
      · refine ⟨fun _ => ⟨by unfold rng; omega, by unfold rng; omega, ⟨by omega, by omega, by omega⟩, ?_⟩, fun hh => by cases hh⟩
        refine natural_give_s hw hwv (by unfold SM; omega) (by omega) (by omega) (fun w' c hw' hwl' hwz' hc' hwp' => ⟨hwl', ?_⟩)
        rw [hvv] at hwp'
        have hwd' := pv_bound (hw'.drop i) (m + 3)
        have hg1' : 1 ≤ g := by
          rcases Int.lt_or_le g 1 with hh | hh
          · have : g = 0 := by omega
            subst this
            omega
          · exact hh
        rw [wrap_u64_id (m := g - 1) (by omega) (by omega)]
        refine ⟨hw', by show w'.length = _; omega, fun k hk => ?_, by show 0 ≤ g - 1; omega, by show g - 1 < _; omega, ?_, ?_⟩
        · show w'.getD k 0 = _
          rw [hwz' k hk, hwz k hk]
        · show pv (w'.drop i) (m + 3) = P - (g - 1) * V
          rcases hc' with rfl | rfl <;> omega
        · show P - (g - 1) * V < V
          omega
    · rintro ⟨g', u2⟩ ⟨hu2, hul2, hz2, hg0', hg1', hp2, hr2⟩
      simp only at hu2 hul2 hz2 hg0' hg1' hp2 hr2
      refine ⟨⟨by omega, by omega⟩, by unfold rng; omega, ⟨i, rfl, by omega, hul2, hu2, by simp [set', hql], ?_, fun k hk => ?_, ?_, ?_⟩, by first | omega | (dsimp only; omega)⟩
      · rw [wrap_u32, set_nat]; exact hq.set _ (by omega) (by omega)
      · show (set' q (i : Int) _).getD k 0 = 0
        rw [set_nat, getD_set_of_ne (by omega)]; exact hqz k (by omega)
      · show (val u : Int) = pv (set' q (i : Int) (IntKind.u32.wrap g')) (K + 1) * V + pv u2 (K + m + 3)
        have k0 := pv_part hz2 (K + m + 3) (by omega)
        have hgm : g' % 4294967296 = g' := by omega
        rw [set_nat, wrap_u32, hgm, pv_set_full (by omega) (K + 1) (by omega), hqz i (by omega), Int.sub_zero, hsum, Int.add_mul]
        rw [hp2, ← hPd] at k0
        have k1 : (P - g' * V - P) * 4294967296 ^ i = - (g' * 4294967296 ^ i * V) := by
          have : P - g' * V - P = - (g' * V) := by omega
          rw [this, Int.neg_mul, Int.mul_right_comm]
        omega
      · show pv u2 (K + m + 3) < V * 4294967296 ^ i
        have k0 := pv_part hz2 (K + m + 3) (by omega)
        rw [hp2, ← hPd, htot] at k0
        have k1 := (pv_bound hu1 i).2
        have k2 : (P - g' * V + 1) * 4294967296 ^ i ≤ V * 4294967296 ^ i := Int.mul_le_mul_of_nonneg_right (by omega) (by omega)
        have k3 : (P - g' * V - P) * 4294967296 ^ i = (P - g' * V) * 4294967296 ^ i - P * 4294967296 ^ i := by rw [Int.sub_mul]
        rw [Int.add_mul] at k2
        omega
  · obtain rfl : j = 0 := by omega
    rw [Int.pow_zero, Int.mul_one] at hrem
    have hq1 := val_pv hq
    have hu1v := val_pv hu1
    rw [hql] at hq1
    rw [hul1] at hu1v
    rw [← hq1, ← hu1v] at hsum
    rw [← hu1v] at hrem
    have hsumN : val u = val q * V + val u1 := by
      have : ((val u : Nat) : Int) = ((val q * V + val u1 : Nat) : Int) := by rw [Int.natCast_add, Int.natCast_mul]; exact hsum
      omega
    have hVB : V = B * 2 ^ s := hr4v
    have hps' : 0 < 2 ^ s := Nat.pow_pos (by omega)
    have hV0' : 0 < V := by omega
    have hdiv : A / B = val q := by
      have k1 : A * 2 ^ s / (B * 2 ^ s) = A / B := Nat.mul_div_mul_right _ _ hps'
      rw [← k1, ← huv, ← hVB, hsumN, Nat.add_comm, Nat.add_mul_div_right _ _ hV0', Nat.div_eq_of_lt (by omega)]; omega
    have hmod : A % B = val u1 / 2 ^ s := by
      have k1 : A * 2 ^ s % (B * 2 ^ s) = A % B * 2 ^ s := Nat.mul_mod_mul_right _ _ _
      rw [← huv, ← hVB, hsumN, Nat.add_comm, Nat.add_mul_mod_self_right, Nat.mod_eq_of_lt (by omega)] at k1
      rw [k1, Nat.mul_div_cancel _ hps']
    refine natural_trim_s hq (by unfold SM; omega) (natural_right_s hu1 (by unfold SM; omega) (by omega) (fun r hr hrl hrv => natural_trim_s hr (by unfold SM; omega) ?_))
    rw [hrv, ← hmod, ← hdiv]
    exact h

theorem natural_Gcd_s {a b : List Int} {Q : List Int → Prop} (ha : Words a) (hb : Words b) (la : a.length ≤ 1099511627774) (lb : b.length ≤ 1099511627774) (h : Q (lim (Nat.gcd (val a) (val b)))) : natural_Gcd_W a b Q := by
  refine natural_trim_s ha (by unfold SM; omega) (natural_trim_s hb (by unfold SM; omega) ?_)
  have b1 := lim_len_le ha
  have b2 := lim_len_le hb
  refine ⟨fun y => ∃ m n : Nat, y = (lim m, lim n) ∧ (lim m).length ≤ 1099511627774 ∧ (lim n).length ≤ 1099511627774 ∧ Nat.gcd m n = Nat.gcd (val a) (val b), fun y => val y.2, ⟨_, _, rfl, by omega, by omega, rfl⟩, ?_⟩
  rintro _ ⟨m, n, rfl, hm, hn, hg⟩
  refine condT (fun hc => ?_) (fun hc => ?_)
  · have hn0 : n ≠ 0 := by rintro rfl; rw [lim_zero] at hc; simp at hc
    refine natural_Div_s (lim_words m) (lim_words n) hm hn (fun h0 => absurd (by rw [val_lim] at h0; exact h0) hn0) (fun _ => ?_)
    rw [val_lim, val_lim]
    have hlt := Nat.mod_lt m (Nat.pos_of_ne_zero hn0)
    refine ⟨⟨n, m % n, rfl, hn, Nat.le_trans (lim_len_mono (Nat.le_of_lt hlt)) hn, ?_⟩, ?_⟩
    · rw [← hg, Nat.gcd_comm n, ← Nat.gcd_rec, Nat.gcd_comm]
    · show val (lim (m % n)) < val (lim n)
      rw [val_lim, val_lim]; exact hlt
  · have hn0 : n = 0 := by
      rcases Nat.eq_zero_or_pos n with h0 | h0
      · exact h0
      · rw [lim_pos h0] at hc; simp at hc
    subst hn0
    rw [Nat.gcd_zero_right] at hg
    rw [← hg] at h
    exact h
end Go.Gg
