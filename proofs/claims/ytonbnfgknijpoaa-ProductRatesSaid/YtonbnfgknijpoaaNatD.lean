/- What the functions on natural numbers compute, told of their formulas: part D: numbers from ints, bits, the steps of a long division. Conditions: none. -/
import Derived.Test.YtonbnfgknijpoaaNatC
namespace Go.Gg

theorem natural_Of_s {n : Int} {Q : List Int → Prop} (h1 : n ≤ 9223372036854775807) (h : Q (lim n.toNat)) : natural_Of_W n Q := by
  refine condT (fun hc => ?_) (fun hc => ?_)
  · have : n.toNat = 0 := by omega
    rw [this, lim_zero] at h; exact h
  · have e32 : (2 : Int) ^ Int.toNat 32 = 4294967296 := rfl
    rw [e32, wrap_u32, wrap_u32]
    have hw : Words [n % 4294967296, n / 4294967296 % 4294967296] := (Words.nil.cons (by omega) (by omega)).cons (by omega) (by omega)
    refine natural_trim_s hw (by simp [SM]) ?_
    have hv : val [n % 4294967296, n / 4294967296 % 4294967296] = n.toNat := by
      rw [val_cons hw, val_cons hw.tail, val_nil]; omega
    rw [hv]; exact h

theorem blen_word {a : List Int} (ha : Words a) {i : Nat} (hz : ∀ k, i < k → k < a.length → a.getD k 0 = 0) (hi : i < a.length) (hn : a.getD i 0 ≠ 0) : (blen (val a) : Int) = 32 * i + blen (a.getD i 0).toNat := by
  have h0 := ha i
  have a1 := val_pv ha
  rw [pv_zero (j := i + 1) a.length hi (fun k h1 h2 => hz k (by omega) h2), pv] at a1
  obtain ⟨b1, b2⟩ := pv_bound ha i
  obtain ⟨x, hx⟩ : ∃ x : Nat, a.getD i 0 = x := ⟨(a.getD i 0).toNat, by omega⟩
  rw [hx] at a1 hn h0 ⊢
  rw [Int.toNat_natCast]
  have hx0 : x ≠ 0 := by omega
  have c1 := blen_lt (n := x)
  have c2 := blen_le hx0
  have hb : blen x ≠ 0 := by unfold blen; rw [if_neg hx0]; omega
  have ew : ((4294967296 ^ i : Nat) : Int) = (4294967296 : Int) ^ i := by simp
  have e1 : val a = (pv a i).toNat + x * 4294967296 ^ i := by
    have : (val a : Int) = (((pv a i).toNat + x * 4294967296 ^ i : Nat) : Int) := by
      rw [a1, Int.natCast_add, Int.natCast_mul, ew]; omega
    omega
  have hlt : (pv a i).toNat < 4294967296 ^ i := by omega
  have hpw : (4294967296 : Nat) ^ i = 2 ^ (32 * i) := by rw [Nat.pow_mul]
  have : blen (val a) = 32 * i + blen x := by
    refine blen_uniq ?_ (fun _ => ?_)
    · rw [e1, Nat.pow_add, ← hpw]
      have : (x + 1) * 4294967296 ^ i ≤ 2 ^ blen x * 4294967296 ^ i := Nat.mul_le_mul_right _ c1
      rw [Nat.add_mul, Nat.mul_comm (2 ^ blen x)] at this
      omega
    · have e : 32 * i + blen x - 1 = 32 * i + (blen x - 1) := by omega
      rw [e1, e, Nat.pow_add, ← hpw]
      have : 2 ^ (blen x - 1) * 4294967296 ^ i ≤ x * 4294967296 ^ i := Nat.mul_le_mul_right _ c2
      rw [Nat.mul_comm (2 ^ (blen x - 1))] at this
      omega
  omega

theorem natural_Bits_s {a : List Int} {Q : Int → Prop} (ha : Words a) (la : SM a) (h : Q (blen (val a))) : natural_Bits_W a Q := by
  unfold SM at la
  refine ⟨by unfold rng; omega, fun x => ∃ j : Nat, x = (j : Int) - 1 ∧ j ≤ a.length ∧ ∀ k, j ≤ k → k < a.length → a.getD k 0 = 0, fun x => (x + 1).toNat, ⟨a.length, rfl, by omega, fun k h1 h2 => by omega⟩, ?_⟩
  rintro _ ⟨j, rfl, hj, hz⟩
  refine condT (fun hc => ⟨⟨by omega, by omega⟩, ?_⟩) (fun hc => ?_)
  · obtain ⟨i, rfl⟩ : ∃ i, j = i + 1 := ⟨j - 1, by omega⟩
    have ei : ((i + 1 : Nat) : Int) - 1 = (i : Int) := by omega
    rw [ei, at_nat]
    have h0 := ha i
    refine condN (fun hn => ⟨by unfold rng; omega, ⟨by omega, by omega⟩, ?_⟩) (fun he => ⟨by unfold rng; omega, ⟨i, rfl, by omega, fun k h1 h2 => ?_⟩, by dsimp only; omega⟩)
    · have hb := blen_word ha (fun k h1 h2 => hz k (by omega) h2) (by omega) hn
      obtain ⟨x, hx⟩ : ∃ x : Nat, a.getD i 0 = x := ⟨(a.getD i 0).toNat, by omega⟩
      rw [hx] at hb ⊢
      rw [Int.toNat_natCast] at hb
      have h32 := blen_le32 (x := x) (by omega)
      refine len32_s (by omega) ⟨by unfold rng; omega, ?_⟩
      rw [← hb]; exact h
    · by_cases hk : k = i
      · subst hk; exact he
      · exact hz k (by omega) h2
  · obtain rfl : j = 0 := by omega
    have : val a = 0 := by
      have a1 := val_pv ha
      rw [pv_zero (j := 0) a.length (by omega) (fun k h1 h2 => hz k h1 h2)] at a1
      simp only [pv] at a1; omega
    rw [this, blen_zero] at h
    exact h

theorem getD_drop {l : List Int} {j i : Nat} : (l.drop j).getD i 0 = l.getD (j + i) 0 := by
  rw [List.getD_eq_getElem?_getD, List.getD_eq_getElem?_getD, List.getElem?_drop]
theorem pv_drop_set {l : List Int} {o i : Nat} {x : Int} (h : o + i < l.length) : pv ((l.set (o + i) x).drop o) (i + 1) = pv (l.drop o) i + x * 4294967296 ^ i := by
  rw [pv, getD_drop, getD_set_self h]
  congr 1
  exact pv_congr i (fun k hk => by rw [getD_drop, getD_drop, getD_set_of_ne (by omega)])

/-- The part of the row from 'o' on, 'n' words, less g times v; whether that is below 0. -/
theorem natural_take_s {u v : List Int} {o n : Nat} {g : Int} {Q : List Int → Bool → Prop} (hu : Words u) (hv : Words v) (lu : SM u) (ho : o + n ≤ u.length) (hn : v.length < n) (hg0 : 0 ≤ g) (hg1 : g < 4294967296)
    (h : ∀ (w : List Int) (b : Int), Words w → w.length = u.length → (∀ k, k < o ∨ o + n ≤ k → w.getD k 0 = u.getD k 0) → (b = 0 ∨ b = 1) → pv (w.drop o) n = pv (u.drop o) n - g * val v + b * 4294967296 ^ n → Q w (b == 1)) :
    natural_take_W u o n v g Q := by
  unfold SM at lu
  refine ⟨fun y => ∃ i : Nat, y.2.2.1 = i ∧ i ≤ n ∧ y.2.2.2.length = u.length ∧ Words y.2.2.2 ∧ (∀ k, k < o ∨ o + i ≤ k → y.2.2.2.getD k 0 = u.getD k 0) ∧ 0 ≤ y.1 ∧ y.1 < 4294967296 ∧ 0 ≤ y.2.1 ∧ y.2.1 ≤ 1 ∧ 0 ≤ g * pv v i - y.1 * 4294967296 ^ i ∧ g * pv v i - y.1 * 4294967296 ^ i < 4294967296 ^ i ∧
      pv (y.2.2.2.drop o) i = pv (u.drop o) i - (g * pv v i - y.1 * 4294967296 ^ i) + y.2.1 * 4294967296 ^ i, fun y => n - y.2.2.1.toNat,
    ⟨0, rfl, by omega, rfl, hu, fun _ _ => rfl, Int.le_refl 0, by show (0 : Int) < 4294967296; omega, Int.le_refl 0, by show (0 : Int) ≤ 1; omega, by simp [pv], by simp [pv], by simp [pv]⟩, ?_⟩
  rintro ⟨c, b, x, w⟩ ⟨i, hx, hi, hlen, hw, hz, hc0, hc1, hb0, hb1, hl0, hl1, hpv⟩
  simp only at hx hi hlen hw hz hc0 hc1 hb0 hb1 hl0 hl1 hpv
  subst hx
  have hvi := hv i
  have hwi := hw (o + i)
  have eoi : (o : Int) + (i : Int) = ((o + i : Nat) : Int) := by omega
  refine condT (fun hlt => natural_word_s hv ?_) (fun hge => ?_)
  · have hm0 : 0 ≤ g * v.getD i 0 := Int.mul_nonneg hg0 hvi.1
    have hm1 : g * v.getD i 0 ≤ 4294967295 * 4294967295 := Int.mul_le_mul (by omega) (by omega) hvi.1 (by omega)
    rw [wrap_u64_id hm0 (by omega), wrap_u64_id (by omega) (by omega)]
    refine letIn ⟨⟨by omega, hlt⟩, by omega, ?_⟩
    rw [eoi, at_nat]
    generalize hc' : c + g * v.getD i 0 = d at *
    rw [wrap_u64_id hwi.1 (by omega), wrap_u32, wrap_u64_id (m := d % 4294967296) (by omega) (by omega)]
    obtain ⟨q1, q2, q3⟩ := sub_step (w.getD (o + i) 0) (d % 4294967296) b hwi (by omega) ⟨hb0, hb1⟩
    refine letIn ⟨⟨by omega, hlt⟩, by omega, by unfold rng; omega, ?_, by dsimp only; omega⟩
    generalize IntKind.u64.wrap (IntKind.u64.wrap (w.getD (o + i) 0 - d % 4294967296) - b) = e at *
    have e63 : e / 2 ^ Int.toNat 63 = e / 9223372036854775808 := rfl
    have e32 : d / 2 ^ Int.toNat 32 = d / 4294967296 := rfl
    rw [e63, e32, set_nat, wrap_u32]
    have hP := pow_pos_w i
    have p1 : pv (u.drop o) (i + 1) = pv (u.drop o) i + w.getD (o + i) 0 * 4294967296 ^ i := by rw [pv, getD_drop, hz (o + i) (by omega)]
    have p2 : g * pv v (i + 1) = g * pv v i + g * v.getD i 0 * 4294967296 ^ i := by rw [pv, Int.mul_add, Int.mul_assoc]
    have p3 := Int.pow_succ (4294967296 : Int) i
    have p0 := pv_drop_set (l := w) (o := o) (i := i) (x := e % 4294967296) (by omega)
    generalize (4294967296 : Int) ^ i = P at *
    have s1 := split_w d P
    have s3 : d * P = c * P + g * v.getD i 0 * P := by rw [← hc', Int.add_mul]
    have s5 : d % 4294967296 * P ≤ 4294967295 * P := Int.mul_le_mul_of_nonneg_right (by omega) (by omega)
    have s6 : 0 ≤ d % 4294967296 * P := Int.mul_nonneg (by omega) (by omega)
    refine ⟨i + 1, rfl, by omega, by simp [hlen], hw.set _ (by omega) (by omega), fun k hk => ?_, by show 0 ≤ d / 4294967296; omega, by show d / 4294967296 < 4294967296; omega, q2, q3, ?_, ?_, ?_⟩
    · show (w.set (o + i) _).getD k 0 = _
      rw [getD_set_of_ne (by omega)]; exact hz k (by omega)
    · show 0 ≤ g * pv v (i + 1) - d / 4294967296 * 4294967296 ^ (i + 1)
      rw [p2, p3]; omega
    · show g * pv v (i + 1) - d / 4294967296 * 4294967296 ^ (i + 1) < 4294967296 ^ (i + 1)
      rw [p2, p3]; omega
    · show pv ((w.set (o + i) (e % 4294967296)).drop o) (i + 1) = pv (u.drop o) (i + 1) - (g * pv v (i + 1) - d / 4294967296 * 4294967296 ^ (i + 1)) + e / 9223372036854775808 * 4294967296 ^ (i + 1)
      rw [p0, hpv, p1, p2, p3]
      have s0 : e % 4294967296 = w.getD (o + i) 0 - d % 4294967296 - b + 4294967296 * (e / 9223372036854775808) := by omega
      rw [s0]
      generalize e / 9223372036854775808 = b' at *
      have s4 : (w.getD (o + i) 0 - d % 4294967296 - b + 4294967296 * b') * P = w.getD (o + i) 0 * P - d % 4294967296 * P - b * P + b' * (P * 4294967296) := by
        rw [Int.add_mul, Int.sub_mul, Int.sub_mul, Int.mul_comm 4294967296 b', Int.mul_assoc b', Int.mul_comm 4294967296 P]
      rw [s4]
      generalize d / 4294967296 = d' at *
      generalize d % 4294967296 = d'' at *
      clear q1 q2 q3 s0 s4 s5 s6 hpv
      omega
  · obtain rfl : i = n := by omega
    refine h w b hw hlen hz (by omega) ?_
    have a1 := val_pv' hv (i := i) (by omega)
    have hc : c = 0 := by
      -- g v < 2^(32 n), for v has fewer than n words
      have hv1 := val_pv' hv (i := i - 1) (by omega)
      have hb' := (pv_bound hv (i - 1)).2
      have hw0 := pv_bound hw 0
      obtain ⟨m, rfl⟩ : ∃ m, i = m + 1 := ⟨i - 1, by omega⟩
      rw [Nat.add_sub_cancel] at hv1 hb'
      have hP := pow_pos_w m
      rw [Int.pow_succ] at hpv
      have hgv : g * pv v (m + 1) ≤ 4294967295 * (4294967296 ^ m - 1) := by
        rw [← a1, hv1]
        exact Int.mul_le_mul (by omega) (by omega) (pv_bound hv m).1 (by omega)
      rw [Int.pow_succ] at hl0
      generalize (4294967296 : Int) ^ m = P at *
      rcases Int.lt_or_le 0 c with hc | hc
      · have : 1 * (P * 4294967296) ≤ c * (P * 4294967296) := Int.mul_le_mul_of_nonneg_right (by omega) (by omega)
        omega
      · omega
    subst hc
    rw [a1]
    rw [hpv]; omega

theorem natural_give_s {u v : List Int} {o n : Nat} {Q : List Int → Prop} (hu : Words u) (hv : Words v) (lu : SM u) (ho : o + n ≤ u.length) (hn : v.length ≤ n)
    (h : ∀ (w : List Int) (c : Int), Words w → w.length = u.length → (∀ k, k < o ∨ o + n ≤ k → w.getD k 0 = u.getD k 0) → (c = 0 ∨ c = 1) → pv (w.drop o) n + c * 4294967296 ^ n = pv (u.drop o) n + val v → Q w) :
    natural_give_W u o n v Q := by
  unfold SM at lu
  refine ⟨fun y => ∃ i : Nat, y.2.1 = i ∧ i ≤ n ∧ y.2.2.length = u.length ∧ Words y.2.2 ∧ (∀ k, k < o ∨ o + i ≤ k → y.2.2.getD k 0 = u.getD k 0) ∧ 0 ≤ y.1 ∧ y.1 ≤ 1 ∧
      pv (y.2.2.drop o) i + y.1 * 4294967296 ^ i = pv (u.drop o) i + pv v i, fun y => n - y.2.1.toNat,
    ⟨0, rfl, by omega, rfl, hu, fun _ _ => rfl, Int.le_refl 0, by show (0 : Int) ≤ 1; omega, by simp [pv]⟩, ?_⟩
  rintro ⟨c, x, w⟩ ⟨i, hx, hi, hlen, hw, hz, hc0, hc1, hpv⟩
  simp only at hx hi hlen hw hz hc0 hc1 hpv
  subst hx
  have hvi := hv i
  have hwi := hw (o + i)
  have eoi : (o : Int) + (i : Int) = ((o + i : Nat) : Int) := by omega
  refine condT (fun hlt => ⟨⟨by omega, hlt⟩, by omega, v.getD i 0, natural_word_s hv rfl, ⟨by omega, hlt⟩, by omega, ?_⟩) (fun hge => ?_)
  · rw [eoi, at_nat, wrap_u64_id hwi.1 (by omega), wrap_u64_id (m := w.getD (o + i) 0 + v.getD i 0) (by omega) (by omega), wrap_u64_id (by omega) (by omega)]
    refine letIn ⟨by unfold rng; omega, ?_, by dsimp only; omega⟩
    have e32 : ∀ d : Int, d / 2 ^ Int.toNat 32 = d / 4294967296 := fun _ => rfl
    rw [e32, set_nat, wrap_u32]
    generalize hd : c + (w.getD (o + i) 0 + v.getD i 0) = d
    refine ⟨i + 1, rfl, by omega, by simp [hlen], hw.set _ (by omega) (by omega), fun k hk => ?_, by show 0 ≤ d / 4294967296; omega, by show d / 4294967296 ≤ 1; omega, ?_⟩
    · show (w.set (o + i) _).getD k 0 = _
      rw [getD_set_of_ne (by omega)]; exact hz k (by omega)
    · show pv ((w.set (o + i) (d % 4294967296)).drop o) (i + 1) + d / 4294967296 * 4294967296 ^ (i + 1) = pv (u.drop o) (i + 1) + pv v (i + 1)
      have p0 := pv_drop_set (l := w) (o := o) (i := i) (x := d % 4294967296) (by omega)
      have p1 : pv (u.drop o) (i + 1) = pv (u.drop o) i + w.getD (o + i) 0 * 4294967296 ^ i := by rw [pv, getD_drop, hz (o + i) (by omega)]
      have p2 : pv v (i + 1) = pv v i + v.getD i 0 * 4294967296 ^ i := by rw [pv]
      rw [p0, p1, p2, Int.pow_succ]
      have s1 := split_w d (4294967296 ^ i)
      have s3 : d * 4294967296 ^ i = c * 4294967296 ^ i + (w.getD (o + i) 0 * 4294967296 ^ i + v.getD i 0 * 4294967296 ^ i) := by rw [← hd, Int.add_mul, Int.add_mul]
      omega
  · obtain rfl : i = n := by omega
    have a1 := val_pv' hv (i := i) (by omega)
    exact h w c hw hlen hz (by omega) (by rw [a1]; exact hpv)
end Go.Gg
