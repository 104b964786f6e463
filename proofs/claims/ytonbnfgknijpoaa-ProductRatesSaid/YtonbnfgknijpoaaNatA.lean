/- What the functions on natural numbers compute, told of their formulas: part A. Conditions: none. -/
import Derived.Test.YtonbnfgknijpoaaW
import Derived.Test.YtonbnfgknijpoaaNaV
namespace Go.Gg

theorem at_int (l : List Int) (i : Int) : at' l i = l.getD i.toNat 0 := rfl
theorem at_nat (l : List Int) (i : Nat) : at' l (i : Int) = l.getD i 0 := rfl
theorem set_nat {α : Type} (l : List α) (i : Nat) (x : α) : set' l (i : Int) x = l.set i x := rfl
theorem rep_nat {α : Type} (n : Nat) (x : α) : rep' (n : Int) x = List.replicate n x := rfl
theorem joinIn {α : Type} {f : (α → Prop) → Prop} {k : α → Prop} (h : f k) : joinW f k := ⟨k, h, fun _ h => h⟩
theorem letIn {α : Type} {e : α} {k : α → Prop} (h : k e) : setW e k := fun _ hv => hv ▸ h
theorem condT {c : Prop} [Decidable c] {a b : Prop} (h1 : c → a) (h2 : ¬ c → b) : condW (decide c) a b := ⟨fun h => h1 (of_decide_eq_true h), fun h => h2 (of_decide_eq_false h)⟩
theorem condE {α : Type} [DecidableEq α] {x y : α} {a b : Prop} (h1 : x = y → a) (h2 : x ≠ y → b) : condW (x == y) a b := ⟨fun h => h1 (by simpa using h), fun h => h2 (by simpa using h)⟩
theorem condN {α : Type} [DecidableEq α] {x y : α} {a b : Prop} (h1 : x ≠ y → a) (h2 : x = y → b) : condW (x != y) a b := ⟨fun h => h1 (by simpa using h), fun h => h2 (by simpa using h)⟩
theorem mk_ok {b : Nat} {n : Nat} (hb : b ≤ 200) (h : n ≤ 1099511627776) : mkOk b (n : Int) (n : Int) := ⟨by omega, Int.le_refl _, by
  have : (b : Int) * (n : Int) ≤ 200 * 1099511627776 := Int.mul_le_mul (by omega) (by omega) (by omega) (by omega)
  omega, by omega⟩
abbrev SM (l : List Int) : Prop := l.length ≤ 1099511627776

theorem natural_word_s {a : List Int} {i : Nat} {Q : Int → Prop} (hw : Words a) (h : Q (a.getD i 0)) : natural_word_W a (i : Int) Q := by
  refine condT (fun hc => ⟨⟨by omega, hc⟩, ?_⟩) (fun hc => ?_)
  · rw [at_nat]
    have := hw i
    rw [wrap_u64_id (by omega) (by omega)]
    exact h
  · rw [getD_ge (by omega)] at h
    exact h
theorem natural_trim_s {a : List Int} {Q : List Int → Prop} (hw : Words a) (hl : SM a) (h : Q (lim (val a))) : natural_trim_W a Q := by
  refine ⟨fun n => ∃ j : Nat, n = j ∧ j ≤ a.length ∧ (∀ i, j ≤ i → i < a.length → a.getD i 0 = 0) ∧ (0 < j → a.getD (j - 1) 0 ≠ 0), ?_, ?_⟩
  · refine ⟨fun n => ∃ j : Nat, n = j ∧ j ≤ a.length ∧ (∀ i, j ≤ i → i < a.length → a.getD i 0 = 0), fun n => n.toNat, ⟨a.length, rfl, Nat.le_refl _, fun i h1 h2 => by omega⟩, ?_⟩
    rintro n ⟨j, rfl, hj, hz⟩
    refine condT (fun hc => ⟨by unfold rng; omega, ⟨by omega, by omega⟩, condE (fun he => ⟨by unfold rng; omega, ⟨j - 1, by omega, by omega, fun i h1 h2 => ?_⟩, by dsimp only; omega⟩) (fun he => ⟨j, rfl, hj, hz, fun _ => ?_⟩)⟩) (fun hc => ⟨j, rfl, hj, hz, fun h0 => by omega⟩)
    · by_cases hi : i = j - 1
      · subst hi
        rw [at_int] at he
        have : ((j : Int) - 1).toNat = j - 1 := by omega
        rwa [this] at he
      · exact hz i (by omega) h2
    · rw [at_int] at he
      have : ((j : Int) - 1).toNat = j - 1 := by omega
      rwa [this] at he
  · rintro n ⟨j, rfl, hj, hz, hlast⟩
    have e := lim_take hw hj hz hlast
    refine condE (fun hc => ?_) (fun hc => ⟨⟨by omega, by omega, by omega⟩, ?_, ?_⟩)
    · obtain rfl : j = 0 := by omega
      rw [← e] at h
      exact h
    · simp [sub']
      have : min j a.length ≤ a.length := by omega
      omega
    · rw [← e] at h
      simpa [sub'] using h

theorem natural_Cmp_s {a b : List Int} {Q : Int → Prop} (ha : Words a) (hb : Words b) (la : SM a) (lb : SM b) (h : Q (cmpv (val a) (val b))) : natural_Cmp_W a b Q := by
  refine natural_trim_s ha la (natural_trim_s hb lb ?_)
  have b1 := lim_len_le ha
  have b2 := lim_len_le hb
  have w1 := lim_words (val a)
  have w2 := lim_words (val b)
  have v1 := val_pv w1
  have v2 := val_pv w2
  rw [val_lim] at v1 v2
  generalize hA : lim (val a) = A at *
  generalize hB : lim (val b) = B at *
  have hlt : A.length < B.length → val a < val b := fun h => by
    rw [← hA, ← hB] at h
    rcases Nat.lt_or_ge (val a) (val b) with h' | h'
    · exact h'
    · have := lim_len_mono h'
      omega
  have hgt : B.length < A.length → val b < val a := fun h => by
    rw [← hA, ← hB] at h
    rcases Nat.lt_or_ge (val b) (val a) with h' | h'
    · exact h'
    · have := lim_len_mono h'
      omega
  unfold SM at la lb
  refine condN (fun hc => condT (fun h1 => ?_) (fun h1 => ?_)) (fun hc => ⟨by unfold rng; omega, ?_⟩)
  · rw [cmpv, if_pos (hlt (by omega))] at h; exact h
  · have := hgt (by omega)
    rw [cmpv, if_neg (by omega), if_neg (by omega)] at h; exact h
  · have hlen : A.length = B.length := by omega
    refine ⟨fun i => ∃ j : Nat, i = (j : Int) - 1 ∧ j ≤ A.length ∧ (∀ k, j ≤ k → k < A.length → A.getD k 0 = B.getD k 0), fun i => (i + 1).toNat, ⟨A.length, rfl, Nat.le_refl _, fun k h1 h2 => by omega⟩, ?_⟩
    rintro i ⟨j, rfl, hj, he⟩
    have hj1 : ((j : Int) - 1).toNat = j - 1 := by omega
    refine condT (fun hc => ⟨⟨by omega, by omega⟩, ⟨by omega, by omega⟩, ?_⟩) (fun hc => ?_)
    · rw [at_int, at_int, hj1]
      refine condT (fun h1 => ?_) (fun h1 => ⟨⟨by omega, by omega⟩, ⟨by omega, by omega⟩, condT (fun h2 => ?_) (fun h2 => ⟨by unfold rng; omega, ⟨j - 1, by omega, by omega, fun k h3 h4 => ?_⟩, by dsimp only; omega⟩)⟩)
      · have := pv_lt w1 w2 (i := j - 1) (n := A.length) (by omega) h1 (fun k h1 h2 => he k (by omega) h2)
        rw [← hlen] at v2
        rw [cmpv, if_pos (by omega)] at h; exact h
      · have := pv_lt w2 w1 (i := j - 1) (n := A.length) (by omega) h2 (fun k h1 h2 => (he k (by omega) h2).symm)
        rw [← hlen] at v2
        rw [cmpv, if_neg (by omega), if_neg (by omega)] at h; exact h
      · by_cases hk : k = j - 1
        · subst hk; omega
        · exact he k (by omega) h4
    · have := pv_congr (l := A) (m := B) A.length (fun k hk => he k (by omega) hk)
      rw [← hlen] at v2
      rw [cmpv, if_neg (by omega), if_pos (by omega)] at h; exact h

theorem natural_Add_s {a b : List Int} {Q : List Int → Prop} (ha : Words a) (hb : Words b) (la : SM a) (lb : a.length ≤ 1099511627775 ∧ b.length ≤ 1099511627775) (h : Q (lim (val a + val b))) : natural_Add_W a b Q := by
  unfold SM at la
  obtain ⟨n, hn0⟩ : ∃ n, n = max a.length b.length + 1 := ⟨_, rfl⟩
  have hn : max (a.length : Int) (b.length : Int) + 1 = (n : Int) := by omega
  unfold natural_Add_W
  rw [hn]
  refine ⟨by unfold rng; omega, mk_ok (by omega) (by omega), ?_⟩
  rw [Int.toNat_natCast]
  refine ⟨fun y => ∃ i : Nat, y.2.1 = i ∧ i ≤ n ∧ y.2.2.length = n ∧ Words y.2.2 ∧ 0 ≤ y.1 ∧ y.1 ≤ 1 ∧ pv y.2.2 i + y.1 * 4294967296 ^ i = pv a i + pv b i, fun y => n - y.2.1.toNat, ⟨0, rfl, by omega, by simp [rep'], Words.rep n, by omega, by omega, by simp [pv]⟩, ?_⟩
  rintro ⟨c, x, out⟩ ⟨i, hx, hi, hlen, hw, hc0, hc1, hpv⟩
  simp only at hx hi hlen hw hc0 hc1 hpv
  subst hx
  have hxl := ha i
  have hxm := hb i
  refine condT (fun hlt => ?_) (fun hge => ?_)
  · refine natural_word_s ha (natural_word_s hb (letIn ⟨⟨by omega, by omega⟩, by unfold rng; omega, ?_, ?_⟩))
    · simp (disch := omega) only [set_nat, wrap_u64_id, wrap_u32]
      refine ⟨i + 1, by omega, by omega, by simp [hlen], hw.set _ (by omega) (by omega), by show 0 ≤ _ / 4294967296; omega, by show _ / 4294967296 ≤ 1; omega, ?_⟩
      show pv (out.set i _) (i + 1) + _ / 4294967296 * _ = _
      rw [pv_set (by omega), Int.pow_succ, pv, pv, Int.add_assoc, split_w]
      have := Int.add_mul c (a.getD i 0 + b.getD i 0) (4294967296 ^ i)
      have := Int.add_mul (a.getD i 0) (b.getD i 0) (4294967296 ^ i)
      omega
    · show n - ((i : Int) + 1).toNat < n - (i : Int).toNat
      omega
  · obtain rfl : i = n := by omega
    refine natural_trim_s hw (by unfold SM; omega) ?_
    have e : val out = val a + val b := by
      have a1 := val_pv' hw (i := i) (by omega)
      have a2 := val_pv' ha (i := i) (by omega)
      have a3 := val_pv' hb (i := i) (by omega)
      have b2 := pv_ge (l := a) (i - 1) (by omega)
      have b3 := pv_ge (l := b) (i - 1) (by omega)
      have b4 := pv_ge (l := a) i (by omega)
      have b5 := pv_ge (l := b) i (by omega)
      have c2 := (pv_bound ha (i - 1)).2
      have c3 := (pv_bound hb (i - 1)).2
      have hi1 : i = i - 1 + 1 := by omega
      have hc := hpv
      rw [hi1, Int.pow_succ, ← hi1] at hc
      have := carry_zero hc (by omega) (by omega) (by omega) hc0 hc1 (pow_pos_w _)
      subst this
      omega
    rw [e]
    exact h

theorem natural_Sub_s {a b : List Int} {Q : List Int → Option Int → Prop} (ha : Words a) (hb : Words b) (la : SM a) (lb : SM b) (h1 : val a < val b → Q [] (some 3)) (h2 : val b ≤ val a → Q (lim (val a - val b)) none) : natural_Sub_W a b Q := by
  refine natural_Cmp_s ha hb la lb (condT (fun hc => h1 (cmpv_lt.1 hc)) (fun hc => ⟨mk_ok (by omega) la, ?_⟩))
  have hge : val b ≤ val a := by have := mt cmpv_lt.2 hc; omega
  have h := h2 hge
  clear h1 h2
  unfold SM at la lb
  rw [Int.toNat_natCast]
  refine ⟨fun y => ∃ i : Nat, y.2.1 = i ∧ i ≤ a.length ∧ y.2.2.length = a.length ∧ Words y.2.2 ∧ 0 ≤ y.1 ∧ y.1 ≤ 1 ∧ pv y.2.2 i = pv a i - pv b i + y.1 * 4294967296 ^ i, fun y => a.length - y.2.1.toNat, ⟨0, rfl, by omega, by simp [rep'], Words.rep _, by omega, by omega, by simp [pv]⟩, ?_⟩
  rintro ⟨c, x, out⟩ ⟨i, hx, hi, hlen, hw, hb0, hb1, hpv⟩
  simp only at hx hi hlen hw hb0 hb1 hpv
  subst hx
  have hxl := ha i
  have hxm := hb i
  obtain ⟨q1, q2, q3⟩ := sub_step (a.getD i 0) (b.getD i 0) c hxl hxm ⟨hb0, hb1⟩
  refine condT (fun hlt => natural_word_s ha (natural_word_s hb (letIn ⟨⟨by omega, by omega⟩, by unfold rng; omega, ?_, by dsimp only; omega⟩))) (fun hge => ?_)
  · simp only [set_nat, wrap_u32]
    generalize IntKind.u64.wrap (IntKind.u64.wrap (a.getD i 0 - b.getD i 0) - c) = d at *
    have e63 : d / 2 ^ Int.toNat 63 = d / 9223372036854775808 := rfl
    refine ⟨i + 1, by omega, by omega, by simp [hlen], hw.set _ (by omega) (by omega), by simpa only [e63] using q2, by simpa only [e63] using q3, ?_⟩
    simp only [e63]
    rw [pv_set (by omega), Int.pow_succ, pv, pv, hpv]
    have e : d % 4294967296 = a.getD i 0 - b.getD i 0 - c + 4294967296 * (d / 9223372036854775808) := by omega
    rw [e]
    generalize d / 9223372036854775808 = d'
    have a1 := Int.add_mul (a.getD i 0 - b.getD i 0 - c) (4294967296 * d') (4294967296 ^ i)
    have a2 := Int.sub_mul (a.getD i 0 - b.getD i 0) c (4294967296 ^ i)
    have a3 := Int.sub_mul (a.getD i 0) (b.getD i 0) (4294967296 ^ i)
    have a4 : 4294967296 * d' * 4294967296 ^ i = d' * (4294967296 ^ i * 4294967296) := by rw [Int.mul_comm 4294967296 d', Int.mul_assoc, Int.mul_comm 4294967296]
    omega
  · obtain rfl : i = a.length := by omega
    refine natural_trim_s hw (by unfold SM; omega) ?_
    have e : val out = val a - val b := by
      have a1 := val_pv' hw (i := a.length) (by omega)
      have a2 := val_pv ha
      have a3 := pv_bound ha a.length
      have a4 := pv_bound hw a.length
      have a5 := pv_bound hb a.length
      have a6 := val_pv hb
      rcases Nat.lt_or_ge a.length b.length with h | h
      · have hm1 := pv_ge_low hb (Nat.le_of_lt h)
        rcases (by omega : c = 0 ∨ c = 1) with rfl | rfl
        · -- the words beyond are zero, for b is not greater: its lower part and the rest
          have hz : pv b b.length = pv b a.length := by
            -- what lies beyond would be at least one word of weight 2^(32 n)
            refine pv_high hb (Nat.le_of_lt h) ?_
            omega
          omega
        · omega
      · have hm1 := val_pv' hb h
        rcases (by omega : c = 0 ∨ c = 1) with rfl | rfl <;> omega
    rw [e]
    exact h

theorem natural_Mul_s {a b : List Int} {Q : List Int → Prop} (ha : Words a) (hb : Words b) (la : a.length + b.length ≤ 1099511627776) (h : Q (lim (val a * val b))) : natural_Mul_W a b Q := by
  obtain ⟨N, hN⟩ : ∃ N, N = a.length + b.length := ⟨_, rfl⟩
  have hNi : (a.length : Int) + (b.length : Int) = (N : Int) := by omega
  unfold natural_Mul_W
  rw [hNi]
  refine ⟨by unfold rng; omega, mk_ok (by omega) (by omega), ?_⟩
  refine ⟨fun y => ∃ i : Nat, y.1 = i ∧ i ≤ a.length ∧ y.2.length = N ∧ Words y.2 ∧ (∀ p, i + b.length ≤ p → y.2.getD p 0 = 0) ∧ pv y.2 N = pv a i * pv b b.length, fun y => a.length - y.1.toNat,
    ⟨0, rfl, by omega, by simp [rep'], Words.rep _, fun p hp => by rw [rep_nat, List.getD_eq_getElem?_getD, List.getElem?_replicate]; split <;> rfl, by rw [rep_nat, pv_rep]; simp [pv]⟩, ?_⟩
  rintro ⟨x, out⟩ ⟨i, hx, hi, hlen, hw, hz, hpv⟩
  simp only at hx hi hlen hw hz hpv
  subst hx
  have hxi := ha i
  refine condT (fun hlt => ⟨⟨by omega, hlt⟩, ?_⟩) (fun hge => ?_)
  · refine ⟨fun y => ∃ k : Nat, y.2.1 = k ∧ k ≤ b.length ∧ y.2.2.length = N ∧ Words y.2.2 ∧ (∀ p, i + b.length ≤ p → y.2.2.getD p 0 = 0) ∧ 0 ≤ y.1 ∧ y.1 < 4294967296 ∧
        pv y.2.2 N + y.1 * 4294967296 ^ (i + k) = pv a i * pv b b.length + a.getD i 0 * 4294967296 ^ i * pv b k, fun y => b.length - y.2.1.toNat,
      ⟨0, rfl, by omega, hlen, hw, hz, by omega, by omega, by simp [pv, hpv]⟩, ?_⟩
    clear hpv hz hw hlen h
    rintro ⟨c, x1, out2⟩ ⟨k, hx, hk, hlen, hw, hz, hc0, hc1, hpv⟩
    simp only at hx hk hlen hw hz hc0 hc1 hpv
    subst hx
    have hy := hb k
    have ho := hw (i + k)
    obtain ⟨q1, q2⟩ := mul_le_w hxi hy
    have eik : (i : Int) + (k : Int) = ((i + k : Nat) : Int) := by omega
    have eib : (i : Int) + (b.length : Int) = ((i + b.length : Nat) : Int) := by omega
    refine condT (fun hlt2 => ⟨⟨by omega, hlt2⟩, by unfold rng; omega, ⟨by omega, by omega⟩, letIn ⟨by unfold rng; omega, ⟨by omega, by omega⟩, by unfold rng; omega, ?_, by dsimp only; omega⟩⟩) (fun hge2 => ⟨by unfold rng; omega, ⟨by omega, by omega⟩, by unfold rng; omega, ?_, by dsimp only; omega⟩)
    · simp only [eik, at_nat, set_nat]
      simp (disch := omega) only [wrap_u64_id, wrap_u32]
      have e32 : ∀ z : Int, z / 2 ^ Int.toNat 32 = z / 4294967296 := fun _ => rfl
      simp only [e32]
      generalize hv : c + (a.getD i 0 * b.getD k 0 + out2.getD (i + k) 0) = v
      refine ⟨k + 1, by omega, by omega, by simp [hlen], hw.set _ (by omega) (by omega), fun p hp => ?_, by show 0 ≤ v / 4294967296; omega, by show v / 4294967296 < 4294967296; omega, ?_⟩
      · show (out2.set (i + k) _).getD p 0 = 0
        rw [getD_set_of_ne (by omega)]; exact hz p hp
      · show pv (out2.set (i + k) (v % 4294967296)) N + v / 4294967296 * 4294967296 ^ (i + (k + 1)) = _
        rw [pv_set_full (by omega) N (by omega), pv, ← Nat.add_assoc, Int.pow_succ, Int.mul_add, ← Int.add_assoc, ← hpv]
        have s1 := split_w v (4294967296 ^ (i + k))
        have s2 := Int.sub_mul (v % 4294967296) (out2.getD (i + k) 0) (4294967296 ^ (i + k))
        have s3 : v * 4294967296 ^ (i + k) = c * 4294967296 ^ (i + k) + (a.getD i 0 * 4294967296 ^ i * (b.getD k 0 * 4294967296 ^ k) + out2.getD (i + k) 0 * 4294967296 ^ (i + k)) := by
          rw [← hv, Int.add_mul, Int.add_mul, Int.pow_add]
          congr 2
          rw [Int.mul_assoc, Int.mul_assoc, Int.mul_left_comm (b.getD k 0)]
        omega
    · obtain rfl : k = b.length := by omega
      simp only [eib, set_nat, wrap_u32]
      have hcm : c % 4294967296 = c := by omega
      rw [hcm]
      refine ⟨i + 1, by omega, by omega, by simp [hlen], hw.set _ (by omega) (by omega), fun p hp => ?_, ?_⟩
      · show (out2.set (i + b.length) c).getD p 0 = 0
        rw [getD_set_of_ne (by omega)]; exact hz p (by omega)
      · show pv (out2.set (i + b.length) c) N = pv a (i + 1) * _
        rw [pv_set_full (by omega) N (by omega), hz (i + b.length) (by omega), pv, Int.add_mul, Int.sub_zero]
        exact hpv
  · obtain rfl : i = a.length := by omega
    refine natural_trim_s hw (by unfold SM; omega) ?_
    have e : val out = val a * val b := by
      have a1 := val_pv' hw (i := N) (by omega)
      have a2 := val_pv ha
      have a3 := val_pv hb
      have : ((val a * val b : Nat) : Int) = (val a : Int) * (val b : Int) := by simp
      have : (val out : Int) = ((val a * val b : Nat) : Int) := by rw [this, a1, hpv, a2, a3]
      omega
    rw [e]
    exact h
end Go.Gg
