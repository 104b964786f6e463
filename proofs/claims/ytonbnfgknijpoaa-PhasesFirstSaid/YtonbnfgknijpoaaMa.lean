/- What the functions on natural numbers compute, told of their formulas: part A. Conditions: none. -/
import Derived.Test.YtonbnfgknijpoaaGc
import Derived.KernelRfl
import Derived.Test.YtonbnfgknijpoaaWA
namespace Go.Gg

theorem at_int (l : List Int) (i : Int) : at' l i = l.getD i.toNat 0 := rfl
theorem at_nat (l : List Int) (i : Nat) : at' l (i : Int) = l.getD i 0 := rfl
theorem set_nat {α : Type} (l : List α) (i : Nat) (x : α) : set' l (i : Int) x = l.set i x := rfl
theorem rep_nat {α : Type} (n : Nat) (x : α) : rep' (n : Int) x = List.replicate n x := rfl
theorem joinIn {α : Type} {f : (α → Prop) → Prop} {k : α → Prop} (h : f k) : joinW f k := ⟨k, h, fun _ h => h⟩
theorem letIn {α : Type} {e : α} {k : α → Prop} (h : k e) : setW e k := fun _ hv => hv ▸ h
theorem condT {c : Prop} [Decidable c] {a b : Prop} (h1 : c → a) (h2 : ¬ c → b) : condW (decide c) a b := ⟨fun h => h1 (of_decide_eq_true h), fun h => h2 (of_decide_eq_false h)⟩
theorem condE {α : Type} [DecidableEq α] {x y : α} {a b : Prop} (h1 : x = y → a) (h2 : x ≠ y → b) : condW (x == y) a b := ⟨fun h => h1 (by simpa using h), fun h => h2 (by simpa using h)⟩
theorem condN {α : Type} [DecidableEq α] {x y : α} {a b : Prop} (h1 : x ≠ y → a) (h2 : x = y → b) : condW (x != y) a b := ⟨fun h => h1 (by simpa using h), fun h => h2 (by simpa using h)⟩
theorem mk_ok {b : Nat} {n : Nat} (hb : b ≤ 200) (h : n ≤ 1099511627776) : mkOk b (n : Int) (n : Int) := ⟨by omega, Int.le_refl _, by
  have : (b : Int) * (n : Int) ≤ 200 * 1099511627776 := Int.mul_le_mul (by omega) (by omega) (by omega) (by omega)
  omega, by omega⟩
abbrev SM (l : List Int) : Prop := l.length ≤ 1099511627776

theorem natural_word_s {a : List Int} {i : Nat} {Q : Int → Prop} (hw : Words a) (h : Q (a.getD i 0)) : natural_word_W a (i : Int) Q := by
  refine condT (fun hc => ⟨⟨by omega, hc⟩, ?_⟩) (fun hc => ?_)
  · rw [at_nat]
    have := hw i
    rw [wrap_u64_id (by omega) (by omega)]
    exact h
  · rw [getD_ge (by omega)] at h
    exact h
theorem natural_trim_s {a : List Int} {Q : List Int → Prop} (hw : Words a) (hl : SM a) (h : Q (lim (val a))) : natural_trim_W a Q := by
  refine ⟨fun n => ∃ j : Nat, n = j ∧ j ≤ a.length ∧ (∀ i, j ≤ i → i < a.length → a.getD i 0 = 0) ∧ (0 < j → a.getD (j - 1) 0 ≠ 0), ?_, ?_⟩
  · refine ⟨fun n => ∃ j : Nat, n = j ∧ j ≤ a.length ∧ (∀ i, j ≤ i → i < a.length → a.getD i 0 = 0), fun n => n.toNat, ⟨a.length, rfl, Nat.le_refl _, fun i h1 h2 => by omega⟩, ?_⟩
    rintro n ⟨j, rfl, hj, hz⟩
    refine condT (fun hc => ⟨by unfold rng; omega, ⟨by omega, by omega⟩, condE (fun he => ⟨by unfold rng; omega, ⟨j - 1, by omega, by omega, fun i h1 h2 => ?_⟩, by dsimp only; omega⟩) (fun he => ⟨j, rfl, hj, hz, fun _ => ?_⟩)⟩) (fun hc => ⟨j, rfl, hj, hz, fun h0 => by omega⟩)
    · by_cases hi : i = j - 1
      · subst hi
        rw [at_int] at he
        have : ((j : Int) - 1).toNat = j - 1 := by omega
        rwa [this] at he
      · exact hz i (by omega) h2
    · rw [at_int] at he
      have : ((j : Int) - 1).toNat = j - 1 := by omega
      rwa [this] at he
  · rintro n ⟨j, rfl, hj, hz, hlast⟩
    have e := lim_take hw hj hz hlast
    refine condE (fun hc => ?_) (fun hc => ⟨⟨by omega, by omega, by omega⟩, ?_, ?_⟩)
    · obtain rfl : j = 0 := by omega
      rw [← e] at h
      exact h
    · simp [sub']
      have : min j a.length ≤ a.length := by omega
      omega
    · rw [← e] at h
      simpa [sub'] using h

theorem natural_Cmp_s {a b : List Int} {Q : Int → Prop} (ha : Words a) (hb : Words b) (la : SM a) (lb : SM b) (h : Q (cmpv (val a) (val b))) : natural_Cmp_W a b Q := by
  refine natural_trim_s ha la (natural_trim_s hb lb ?_)
  have b1 := lim_len_le ha
  have b2 := lim_len_le hb
  have w1 := lim_words (val a)
  have w2 := lim_words (val b)
  have v1 := val_pv w1
  have v2 := val_pv w2
  rw [val_lim] at v1 v2
  generalize hA : lim (val a) = A at *
  generalize hB : lim (val b) = B at *
  have hlt : A.length < B.length → val a < val b := fun h => by
    rw [← hA, ← hB] at h
    rcases Nat.lt_or_ge (val a) (val b) with h' | h'
    · exact h'
    · have := lim_len_mono h'
      omega
  have hgt : B.length < A.length → val b < val a := fun h => by
    rw [← hA, ← hB] at h
    rcases Nat.lt_or_ge (val b) (val a) with h' | h'
    · exact h'
    · have := lim_len_mono h'
      omega
  unfold SM at la lb
  refine condN (fun hc => condT (fun h1 => ?_) (fun h1 => ?_)) (fun hc => ⟨by unfold rng; omega, ?_⟩)
  · rw [cmpv, if_pos (hlt (by omega))] at h; exact h
  · have := hgt (by omega)
    rw [cmpv, if_neg (by omega), if_neg (by omega)] at h; exact h
  · have hlen : A.length = B.length := by omega
    refine ⟨fun i => ∃ j : Nat, i = (j : Int) - 1 ∧ j ≤ A.length ∧ (∀ k, j ≤ k → k < A.length → A.getD k 0 = B.getD k 0), fun i => (i + 1).toNat, ⟨A.length, rfl, Nat.le_refl _, fun k h1 h2 => by omega⟩, ?_⟩
    rintro i ⟨j, rfl, hj, he⟩
    have hj1 : ((j : Int) - 1).toNat = j - 1 := by omega
    refine condT (fun hc => ⟨⟨by omega, by omega⟩, ⟨by omega, by omega⟩, ?_⟩) (fun hc => ?_)
    · rw [at_int, at_int, hj1]
      refine condT (fun h1 => ?_) (fun h1 => ⟨⟨by omega, by omega⟩, ⟨by omega, by omega⟩, condT (fun h2 => ?_) (fun h2 => ⟨by unfold rng; omega, ⟨j - 1, by omega, by omega, fun k h3 h4 => ?_⟩, by dsimp only; omega⟩)⟩)
      · have := pv_lt w1 w2 (i := j - 1) (n := A.length) (by omega) h1 (fun k h1 h2 => he k (by omega) h2)
        rw [← hlen] at v2
        rw [cmpv, if_pos (by omega)] at h; exact h
      · have := pv_lt w2 w1 (i := j - 1) (n := A.length) (by omega) h2 (fun k h1 h2 => (he k (by omega) h2).symm)
        rw [← hlen] at v2
        rw [cmpv, if_neg (by omega), if_neg (by omega)] at h; exact h
      · by_cases hk : k = j - 1
        · subst hk; omega
        · exact he k (by omega) h4
    · have := pv_congr (l := A) (m := B) A.length (fun k hk => he k (by omega) hk)
      rw [← hlen] at v2
      rw [cmpv, if_neg (by omega), if_pos (by omega)] at h; exact h

theorem natural_Add_s {a b : List Int} {Q : List Int → Prop} (ha : Words a) (hb : Words b) (la : SM a) (lb : a.length ≤ 1099511627775 ∧ b.length ≤ 1099511627775) (h : Q (lim (val a + val b))) : natural_Add_W a b Q := by
  unfold SM at la
  obtain ⟨n, hn0⟩ : ∃ n, n = max a.length b.length + 1 := ⟨_, rfl⟩
  have hn : max (a.length : Int) (b.length : Int) + 1 = (n : Int) := by omega
  unfold natural_Add_W
  rw [hn]
  refine ⟨by unfold rng; omega, mk_ok (by omega) (by omega), ?_⟩
  rw [Int.toNat_natCast]
  refine ⟨fun y => ∃ i : Nat, y.2.1 = i ∧ i ≤ n ∧ y.2.2.length = n ∧ Words y.2.2 ∧ 0 ≤ y.1 ∧ y.1 ≤ 1 ∧ pv y.2.2 i + y.1 * 4294967296 ^ i = pv a i + pv b i, fun y => n - y.2.1.toNat, ⟨0, rfl, by omega, by simp [rep'], Words.rep n, by omega, by omega, by simp [pv]⟩, ?_⟩
  rintro ⟨c, x, out⟩ ⟨i, hx, hi, hlen, hw, hc0, hc1, hpv⟩
  simp only at hx hi hlen hw hc0 hc1 hpv
  subst hx
  have hxl := ha i
  have hxm := hb i
  refine condT (fun hlt => ?_) (fun hge => ?_)
  · refine natural_word_s ha (natural_word_s hb (letIn ⟨⟨by omega, by omega⟩, by unfold rng; omega, ?_, ?_⟩))
    · simp (disch := omega) only [set_nat, wrap_u64_id, wrap_u32]
      refine ⟨i + 1, by omega, by omega, by simp [hlen], hw.set _ (by omega) (by omega), by show 0 ≤ _ / 4294967296; omega, by show _ / 4294967296 ≤ 1; omega, ?_⟩
      show pv (out.set i _) (i + 1) + _ / 4294967296 * _ = _
      rw [pv_set (by omega), Int.pow_succ, pv, pv, Int.add_assoc, split_w]
      have := Int.add_mul c (a.getD i 0 + b.getD i 0) (4294967296 ^ i)
      have := Int.add_mul (a.getD i 0) (b.getD i 0) (4294967296 ^ i)
      omega
    · show n - ((i : Int) + 1).toNat < n - (i : Int).toNat
      omega
  · obtain rfl : i = n := by omega
    refine natural_trim_s hw (by unfold SM; omega) ?_
    have e : val out = val a + val b := by
      have a1 := val_pv' hw (i := i) (by omega)
      have a2 := val_pv' ha (i := i) (by omega)
      have a3 := val_pv' hb (i := i) (by omega)
      have b2 := pv_ge (l := a) (i - 1) (by omega)
      have b3 := pv_ge (l := b) (i - 1) (by omega)
      have b4 := pv_ge (l := a) i (by omega)
      have b5 := pv_ge (l := b) i (by omega)
      have c2 := (pv_bound ha (i - 1)).2
      have c3 := (pv_bound hb (i - 1)).2
      have hi1 : i = i - 1 + 1 := by omega
      have hc := hpv
      rw [hi1, Int.pow_succ, ← hi1] at hc
      have := carry_zero hc (by omega) (by omega) (by omega) hc0 hc1 (pow_pos_w _)
      subst this
      omega
    rw [e]
    exact h

theorem natural_Sub_s {a b : List Int} {Q : List Int → Option Int → Prop} (ha : Words a) (hb : Words b) (la : SM a) (lb : SM b) (h1 : val a < val b → Q [] (some 3)) (h2 : val b ≤ val a → Q (lim (val a - val b)) none) : natural_Sub_W a b Q := by
  refine natural_Cmp_s ha hb la lb (condT (fun hc => h1 (cmpv_lt.1 hc)) (fun hc => ⟨mk_ok (by omega) la, ?_⟩))
  have hge : val b ≤ val a := by have := mt cmpv_lt.2 hc; omega
  have h := h2 hge
  clear h1 h2
  unfold SM at la lb
  rw [Int.toNat_natCast]
  refine ⟨fun y => ∃ i : Nat, y.2.1 = i ∧ i ≤ a.length ∧ y.2.2.length = a.length ∧ Words y.2.2 ∧ 0 ≤ y.1 ∧ y.1 ≤ 1 ∧ pv y.2.2 i = pv a i - pv b i + y.1 * 4294967296 ^ i, fun y => a.length - y.2.1.toNat, ⟨0, rfl, by omega, by simp [rep'], Words.rep _, by omega, by omega, by simp [pv]⟩, ?_⟩
  rintro ⟨c, x, out⟩ ⟨i, hx, hi, hlen, hw, hb0, hb1, hpv⟩
  simp only at hx hi hlen hw hb0 hb1 hpv
  subst hx
  have hxl := ha i
  have hxm := hb i
  obtain ⟨q1, q2, q3⟩ := sub_step (a.getD i 0) (b.getD i 0) c hxl hxm ⟨hb0, hb1⟩
  refine condT (fun hlt => natural_word_s ha (natural_word_s hb (letIn ⟨⟨by omega, by omega⟩, by unfold rng; omega, ?_, by dsimp only; omega⟩))) (fun hge => ?_)
  · simp only [set_nat, wrap_u32]
    generalize IntKind.u64.wrap (IntKind.u64.wrap (a.getD i 0 - b.getD i 0) - c) = d at *
    have e63 : d / 2 ^ Int.toNat 63 = d / 9223372036854775808 := rfl
    refine ⟨i + 1, by omega, by omega, by simp [hlen], hw.set _ (by omega) (by omega), by simpa only [e63] using q2, by simpa only [e63] using q3, ?_⟩
    simp only [e63]
    rw [pv_set (by omega), Int.pow_succ, pv, pv, hpv]
    have e : d % 4294967296 = a.getD i 0 - b.getD i 0 - c + 4294967296 * (d / 9223372036854775808) := by omega
    rw [e]
    generalize d / 9223372036854775808 = d'
    have a1 := Int.add_mul (a.getD i 0 - b.getD i 0 - c) (4294967296 * d') (4294967296 ^ i)
    have a2 := Int.sub_mul (a.getD i 0 - b.getD i 0) c (4294967296 ^ i)
    have a3 := Int.sub_mul (a.getD i 0) (b.getD i 0) (4294967296 ^ i)
    have a4 : 4294967296 * d' * 4294967296 ^ i = d' * (4294967296 ^ i * 4294967296) := by rw [Int.mul_comm 4294967296 d', Int.mul_assoc, Int.mul_comm 4294967296]
    omega
  · obtain rfl : i = a.length := by omega
    refine natural_trim_s hw (by unfold SM; omega) ?_
    have e : val out = val a - val b := by
      have a1 := val_pv' hw (i := a.length) (by omega)
      have a2 := val_pv ha
      have a3 := pv_bound ha a.length
      have a4 := pv_bound hw a.length
      have a5 := pv_bound hb a.length
      have a6 := val_pv hb
      rcases Nat.lt_or_ge a.length b.length with h | h
      · have hm1 := pv_ge_low hb (Nat.le_of_lt h)
        rcases (by omega : c = 0 ∨ c = 1) with rfl | rfl
        · -- the words beyond are zero, for b is not greater: its lower part and the rest
          have hz : pv b b.length = pv b a.length := by
            -- what lies beyond would be at least one word of weight 2^(32 n)
            refine pv_high hb (Nat.le_of_lt h) ?_
            omega
          omega
        · omega
      · have hm1 := val_pv' hb h
        rcases (by omega : c = 0 ∨ c = 1) with rfl | rfl <;> omega
    rw [e]
    exact h

theorem natural_Mul_s {a b : List Int} {Q : List Int → Prop} (ha : Words a) (hb : Words b) (la : a.length + b.length ≤ 1099511627776) (h : Q (lim (val a * val b))) : natural_Mul_W a b Q := by
  obtain ⟨N, hN⟩ : ∃ N, N = a.length + b.length := ⟨_, rfl⟩
  have hNi : (a.length : Int) + (b.length : Int) = (N : Int) := by omega
  unfold natural_Mul_W
  rw [hNi]
  refine ⟨by unfold rng; omega, mk_ok (by omega) (by omega), ?_⟩
  refine ⟨fun y => ∃ i : Nat, y.1 = i ∧ i ≤ a.length ∧ y.2.length = N ∧ Words y.2 ∧ (∀ p, i + b.length ≤ p → y.2.getD p 0 = 0) ∧ pv y.2 N = pv a i * pv b b.length, fun y => a.length - y.1.toNat,
    ⟨0, rfl, by omega, by simp [rep'], Words.rep _, fun p hp => by rw [rep_nat, List.getD_eq_getElem?_getD, List.getElem?_replicate]; split <;> rfl, by rw [rep_nat, pv_rep]; simp [pv]⟩, ?_⟩
  rintro ⟨x, out⟩ ⟨i, hx, hi, hlen, hw, hz, hpv⟩
  simp only at hx hi hlen hw hz hpv
  subst hx
  have hxi := ha i
  refine condT (fun hlt => ⟨⟨by omega, hlt⟩, ?_⟩) (fun hge => ?_)
  · refine ⟨fun y => ∃ k : Nat, y.2.1 = k ∧ k ≤ b.length ∧ y.2.2.length = N ∧ Words y.2.2 ∧ (∀ p, i + b.length ≤ p → y.2.2.getD p 0 = 0) ∧ 0 ≤ y.1 ∧ y.1 < 4294967296 ∧
        pv y.2.2 N + y.1 * 4294967296 ^ (i + k) = pv a i * pv b b.length + a.getD i 0 * 4294967296 ^ i * pv b k, fun y => b.length - y.2.1.toNat,
      ⟨0, rfl, by omega, hlen, hw, hz, by omega, by omega, by simp [pv, hpv]⟩, ?_⟩
    clear hpv hz hw hlen h
    rintro ⟨c, x1, out2⟩ ⟨k, hx, hk, hlen, hw, hz, hc0, hc1, hpv⟩
    simp only at hx hk hlen hw hz hc0 hc1 hpv
    subst hx
    have hy := hb k
    have ho := hw (i + k)
    obtain ⟨q1, q2⟩ := mul_le_w hxi hy
    have eik : (i : Int) + (k : Int) = ((i + k : Nat) : Int) := by omega
    have eib : (i : Int) + (b.length : Int) = ((i + b.length : Nat) : Int) := by omega
    refine condT (fun hlt2 => ⟨⟨by omega, hlt2⟩, by unfold rng; omega, ⟨by omega, by omega⟩, letIn ⟨by unfold rng; omega, ⟨by omega, by omega⟩, by unfold rng; omega, ?_, by dsimp only; omega⟩⟩) (fun hge2 => ⟨by unfold rng; omega, ⟨by omega, by omega⟩, by unfold rng; omega, ?_, by dsimp only; omega⟩)
    · simp only [eik, at_nat, set_nat]
      simp (disch := omega) only [wrap_u64_id, wrap_u32]
      have e32 : ∀ z : Int, z / 2 ^ Int.toNat 32 = z / 4294967296 := fun _ => rfl
      simp only [e32]
      generalize hv : c + (a.getD i 0 * b.getD k 0 + out2.getD (i + k) 0) = v
      refine ⟨k + 1, by omega, by omega, by simp [hlen], hw.set _ (by omega) (by omega), fun p hp => ?_, by show 0 ≤ v / 4294967296; omega, by show v / 4294967296 < 4294967296; omega, ?_⟩
      · show (out2.set (i + k) _).getD p 0 = 0
        rw [getD_set_of_ne (by omega)]; exact hz p hp
      · show pv (out2.set (i + k) (v % 4294967296)) N + v / 4294967296 * 4294967296 ^ (i + (k + 1)) = _
        rw [pv_set_full (by omega) N (by omega), pv, ← Nat.add_assoc, Int.pow_succ, Int.mul_add, ← Int.add_assoc, ← hpv]
        have s1 := split_w v (4294967296 ^ (i + k))
        have s2 := Int.sub_mul (v % 4294967296) (out2.getD (i + k) 0) (4294967296 ^ (i + k))
        have s3 : v * 4294967296 ^ (i + k) = c * 4294967296 ^ (i + k) + (a.getD i 0 * 4294967296 ^ i * (b.getD k 0 * 4294967296 ^ k) + out2.getD (i + k) 0 * 4294967296 ^ (i + k)) := by
          rw [← hv, Int.add_mul, Int.add_mul, Int.pow_add]
          congr 2
          rw [Int.mul_assoc, Int.mul_assoc, Int.mul_left_comm (b.getD k 0)]
        omega
    · obtain rfl : k = b.length := by omega
      simp only [eib, set_nat, wrap_u32]
      have hcm : c % 4294967296 = c := by omega
      rw [hcm]
      refine ⟨i + 1, by omega, by omega, by simp [hlen], hw.set _ (by omega) (by omega), fun p hp => ?_, ?_⟩
      · show (out2.set (i + b.length) c).getD p 0 = 0
        rw [getD_set_of_ne (by omega)]; exact hz p (by omega)
      · show pv (out2.set (i + b.length) c) N = pv a (i + 1) * _
        rw [pv_set_full (by omega) N (by omega), hz (i + b.length) (by omega), pv, Int.add_mul, Int.sub_zero]
        exact hpv
  · obtain rfl : i = a.length := by omega
    refine natural_trim_s hw (by unfold SM; omega) ?_
    have e : val out = val a * val b := by
      have a1 := val_pv' hw (i := N) (by omega)
      have a2 := val_pv ha
      have a3 := val_pv hb
      have : ((val a * val b : Nat) : Int) = (val a : Int) * (val b : Int) := by simp
      have : (val out : Int) = ((val a * val b : Nat) : Int) := by rw [this, a1, hpv, a2, a3]
      omega
    rw [e]
    exact h
end Go.Gg
namespace Go.Gg

theorem or_nat {x y i : Nat} (hx : x < 2 ^ i) (hy : 2 ^ i ∣ y) : y ||| x = y + x := by
  obtain ⟨z, rfl⟩ := hy
  rw [Nat.mul_comm, ← Nat.shiftLeft_eq, Nat.shiftLeft_add_eq_or_of_lt hx]
theorem or_u64 {x y : Int} (i : Nat) (hx : 0 ≤ x) (hxi : x < 2 ^ i) (hy : 0 ≤ y) (hyi : y % 2 ^ i = 0) (hs : y + x < 18446744073709551616) : bits .or .u64 y x = y + x := by
  obtain ⟨m, rfl⟩ := Int.eq_ofNat_of_zero_le hx
  obtain ⟨n, rfl⟩ := Int.eq_ofNat_of_zero_le hy
  have h1 : m < 2 ^ i := by exact_mod_cast hxi
  have h2 : 2 ^ i ∣ n := by
    have : (n : Int) % ((2 ^ i : Nat) : Int) = 0 := by simpa using hyi
    exact Nat.dvd_of_mod_eq_zero (by omega)
  have h3 := or_nat h1 h2
  show IntKind.u64.wrap (((BitVec.ofInt 64 (n : Int)) ||| (BitVec.ofInt 64 (m : Int))).toNat : Int) = _
  rw [wrap_u64, BitVec.toNat_or, BitVec.toNat_ofInt, BitVec.toNat_ofInt]
  have e1 : ((n : Int) % ((2 ^ 64 : Nat) : Int)).toNat = n := by omega
  have e2 : ((m : Int) % ((2 ^ 64 : Nat) : Int)).toNat = m := by omega
  rw [e1, e2, h3]
  omega
theorem or_u64' {x y : Int} (i : Nat) (hx : 0 ≤ x) (hxi : x < 2 ^ i) (hy : 0 ≤ y) (hyi : y % 2 ^ i = 0) (hs : y + x < 18446744073709551616) : bits .or .u64 x y = y + x := by
  rw [← or_u64 i hx hxi hy hyi hs]
  show IntKind.u64.wrap (((BitVec.ofInt 64 x) ||| (BitVec.ofInt 64 y)).toNat : Int) = IntKind.u64.wrap (((BitVec.ofInt 64 y) ||| (BitVec.ofInt 64 x)).toNat : Int)
  rw [BitVec.or_comm]
theorem or_u32' {x y : Int} (i : Nat) (hx : 0 ≤ x) (hxi : x < 2 ^ i) (hy : 0 ≤ y) (hyi : y % 2 ^ i = 0) (hs : y + x < 4294967296) : bits .or .u32 x y = y + x := by
  obtain ⟨m, rfl⟩ := Int.eq_ofNat_of_zero_le hx
  obtain ⟨n, rfl⟩ := Int.eq_ofNat_of_zero_le hy
  have h1 : m < 2 ^ i := by exact_mod_cast hxi
  have h2 : 2 ^ i ∣ n := by
    have : (n : Int) % ((2 ^ i : Nat) : Int) = 0 := by simpa using hyi
    exact Nat.dvd_of_mod_eq_zero (by omega)
  have h3 := or_nat h1 h2
  show IntKind.u32.wrap (((BitVec.ofInt 32 (m : Int)) ||| (BitVec.ofInt 32 (n : Int))).toNat : Int) = _
  rw [wrap_u32, BitVec.toNat_or, BitVec.toNat_ofInt, BitVec.toNat_ofInt]
  have e1 : ((n : Int) % ((2 ^ 32 : Nat) : Int)).toNat = n := by omega
  have e2 : ((m : Int) % ((2 ^ 32 : Nat) : Int)).toNat = m := by omega
  rw [e1, e2, Nat.or_comm, h3]
  omega

/-- How many bits a number has. -/
def blen (n : Nat) : Nat := if n = 0 then 0 else n.log2 + 1
theorem blen_zero : blen 0 = 0 := rfl
theorem blen_lt {n : Nat} : n < 2 ^ blen n := by
  unfold blen
  split
  · omega
  · exact Nat.lt_log2_self
theorem blen_le {n : Nat} (h : n ≠ 0) : 2 ^ (blen n - 1) ≤ n := by
  unfold blen
  rw [if_neg h]
  exact Nat.log2_self_le h
theorem blen_uniq {n k : Nat} (h : n < 2 ^ k) (h' : k ≠ 0 → 2 ^ (k - 1) ≤ n) : blen n = k := by
  by_cases h0 : n = 0
  · subst h0
    cases k with
    | zero => rfl
    | succ k => have := h' (by omega); have : 0 < 2 ^ k := Nat.pow_pos (by omega); simp at *
  · have a := blen_lt (n := n)
    have b := blen_le h0
    have hk : k ≠ 0 := by rintro rfl; simp at h; omega
    have c := h' hk
    have hb : blen n ≠ 0 := by unfold blen; rw [if_neg h0]; omega
    rcases Nat.lt_trichotomy (blen n) k with hlt | he | hgt
    · have : 2 ^ blen n ≤ 2 ^ (k - 1) := Nat.pow_le_pow_right (by omega) (by omega)
      omega
    · exact he
    · have : 2 ^ k ≤ 2 ^ (blen n - 1) := Nat.pow_le_pow_right (by omega) (by omega)
      omega
theorem blen_shift {n k : Nat} (h : 2 ^ k ≤ n) : blen n = blen (n / 2 ^ k) + k := by
  have hp : 0 < 2 ^ k := Nat.pow_pos (by omega)
  have hq : n / 2 ^ k ≠ 0 := by have := Nat.div_pos h hp; omega
  have a := blen_lt (n := n / 2 ^ k)
  have b := blen_le hq
  have hb : blen (n / 2 ^ k) ≠ 0 := by unfold blen; rw [if_neg hq]; omega
  refine blen_uniq ?_ (fun _ => ?_)
  · rw [Nat.pow_add]
    rw [Nat.div_lt_iff_lt_mul hp] at a
    exact a
  · have e : blen (n / 2 ^ k) + k - 1 = (blen (n / 2 ^ k) - 1) + k := by omega
    rw [e, Nat.pow_add]
    rw [Nat.le_div_iff_mul_le hp] at b
    exact b
theorem tab_all : (List.range 256).all (fun k => byteAt str_633d862b k == (blen k : Int)) = true := by kernel_rfl
theorem tab_at {k : Nat} (h : k < 256) : byteAt str_633d862b k = (blen k : Int) := by
  have := List.all_eq_true.1 tab_all k (by simpa using h)
  simpa using this
theorem tab_size : str_633d862b.size = 256 := by kernel_rfl

theorem len32_s {x : Nat} {Q : Int → Prop} (hx : x < 4294967296) (h : Q (blen x)) : math_bits_Len32_W (x : Int) Q := by
  refine ⟨fun y => ∃ z k : Nat, y = ((z : Int), (k : Int)) ∧ z < 65536 ∧ k ≤ 16 ∧ blen x = blen z + k, ?_, ?_⟩
  · refine condT (fun hc => ⟨x / 65536, 16, ?_, by omega, by omega, ?_⟩) (fun hc => ⟨x, 0, rfl, by omega, by omega, rfl⟩)
    · show ((x : Int) / 65536, (16 : Int)) = _
      rw [Prod.mk.injEq]; exact ⟨by omega, rfl⟩
    · exact blen_shift (k := 16) (by omega)
  · rintro _ ⟨z, k, rfl, hz, hk, hb⟩
    refine ⟨fun y => ∃ z k : Nat, y = ((z : Int), (k : Int)) ∧ z < 256 ∧ k ≤ 24 ∧ blen x = blen z + k, ?_, ?_⟩
    · refine condT (fun hc => ⟨by unfold rng; omega, z / 256, k + 8, ?_, by omega, by omega, ?_⟩) (fun hc => ⟨z, k, rfl, by omega, by omega, hb⟩)
      · show ((z : Int) / 256, (k : Int) + 8) = _
        rw [Prod.mk.injEq]; exact ⟨by omega, by omega⟩
      · have h8 := blen_shift (n := z) (k := 8) (by omega)
        have e : z / 2 ^ 8 = z / 256 := rfl
        rw [e] at h8
        omega
    · rintro _ ⟨z, k, rfl, hz, hk, hb⟩
      show (_ ∧ _)
      have hw : IntKind.u8.wrap (z : Int) = z := by rw [wrap_u8]; omega
      have hz' : (blen z : Int) ≤ 8 := by
        have : blen z ≤ 8 := by
          by_cases h0 : z = 0
          · subst h0; simp [blen]
          · have := blen_le h0
            rcases Nat.lt_or_ge 8 (blen z) with h8 | h8
            · have : 2 ^ 8 ≤ 2 ^ (blen z - 1) := Nat.pow_le_pow_right (by omega) (by omega)
              omega
            · exact h8
        omega
      rw [hw, tab_size]
      have e : (Int.toNat (z : Int)) = z := by omega
      rw [e, tab_at hz, rng_wrap (by unfold rng; omega)]
      refine ⟨⟨by omega, by omega⟩, by unfold rng; omega, letIn ?_⟩
      have : (k : Int) + (blen z : Int) = ((blen x : Nat) : Int) := by omega
      rw [this]
      exact h
theorem blen_le32 {x : Nat} (hx : x < 4294967296) : blen x ≤ 32 := by
  by_cases h0 : x = 0
  · subst h0; simp [blen]
  · have := blen_le h0
    rcases Nat.lt_or_ge 32 (blen x) with h8 | h8
    · have : 2 ^ 32 ≤ 2 ^ (blen x - 1) := Nat.pow_le_pow_right (by omega) (by omega)
      omega
    · exact h8
theorem lz32_s {x : Nat} {Q : Int → Prop} (hx : x < 4294967296) (h : Q ((32 - blen x : Nat) : Int)) : math_bits_LeadingZeros32_W (x : Int) Q := by
  refine len32_s hx ?_
  have h1 := blen_le32 hx
  refine ⟨by unfold rng; omega, ?_⟩
  have : (32 : Int) - (blen x : Int) = ((32 - blen x : Nat) : Int) := by omega
  rw [this]
  exact h
end Go.Gg
namespace Go.Gg

theorem two_split {n : Nat} (h : n ≤ 32) : (2 : Int) ^ n * 2 ^ (32 - n) = 4294967296 := by
  rw [← Int.pow_add]
  have : n + (32 - n) = 32 := by omega
  rw [this]; rfl
theorem pow2_pos (n : Nat) : (0 : Int) < 2 ^ n := Int.pow_pos (by omega)

theorem natural_left_s {a : List Int} {n : Nat} {Q : List Int → Prop} (ha : Words a) (la : a.length ≤ 1099511627775) (hn : n ≤ 32) (h : ∀ out, Words out → out.length = a.length + 1 → val out = val a * 2 ^ n → Q out) : natural_left_W a (n : Int) Q := by
  have hL : (a.length : Int) + 1 = ((a.length + 1 : Nat) : Int) := by omega
  unfold natural_left_W
  rw [hL]
  have hs := two_split hn
  have hpp := pow2_pos n
  have hqp := pow2_pos (32 - n)
  generalize hp : (2 : Int) ^ n = p at *
  generalize (2 : Int) ^ (32 - n) = q at *
  have hple : p ≤ 4294967296 := by
    have : p * 1 ≤ p * q := Int.mul_le_mul_of_nonneg_left (by omega) (by omega)
    omega
  have hdvd : p ∣ 4294967296 := ⟨q, hs.symm⟩
  refine ⟨by unfold rng; omega, mk_ok (by omega) (by omega), fun y => ∃ i : Nat, y.1 = i ∧ i ≤ a.length ∧ y.2.length = a.length + 1 ∧ Words y.2 ∧ (∀ k, i < k → y.2.getD k 0 = 0) ∧ y.2.getD i 0 < p ∧ pv y.2 (i + 1) = pv a i * p, fun y => a.length - y.1.toNat,
    ⟨0, rfl, by omega, by simp [rep'], Words.rep _, fun k hk => ?_, ?_, ?_⟩, ?_⟩
  · show (List.replicate (a.length + 1) (0 : Int)).getD k 0 = 0
    rw [List.getD_eq_getElem?_getD, List.getElem?_replicate]; split <;> rfl
  · show (List.replicate (a.length + 1) (0 : Int)).getD 0 0 < p
    simp; omega
  · show pv (List.replicate (a.length + 1) (0 : Int)) 1 = _
    rw [pv_rep]; simp [pv]
  rintro ⟨x, out⟩ ⟨i, hx, hi, hlen, hw, hz, hlow, hpv⟩
  simp only at hx hi hlen hw hz hlow hpv
  subst hx
  have hxi := ha i
  have hoi := hw i
  refine condT (fun hlt => ⟨⟨by omega, hlt⟩, ⟨by omega, by omega⟩, ?_⟩) (fun hge => ?_)
  · rw [at_nat, Int.toNat_natCast, hp]
    have hy0 : 0 ≤ a.getD i 0 * p := Int.mul_nonneg hxi.1 (by omega)
    have hy1 : a.getD i 0 * p < 4294967296 * p := Int.mul_lt_mul_of_pos_right hxi.2 hpp
    have hy2 : 4294967296 * p ≤ 4294967296 * 4294967296 := Int.mul_le_mul_of_nonneg_left hple (by omega)
    rw [wrap_u64_id hxi.1 (by omega), wrap_u64_id hy0 (by omega)]
    refine letIn ?_
    have hdy : p ∣ a.getD i 0 * p := ⟨_, Int.mul_comm _ _⟩
    have hhi : a.getD i 0 * p / 4294967296 < p := by
      rw [Int.ediv_lt_iff_lt_mul (by omega)]
      rw [Int.mul_comm p]; exact hy1
    generalize hv : a.getD i 0 * p = y at *
    refine ⟨⟨by omega, by omega⟩, ⟨by omega, by omega⟩, by unfold rng; omega, ⟨by omega, by omega⟩, by unfold rng; omega, ?_, by dsimp only; omega⟩
    have e1 : (i : Int) + 1 = ((i + 1 : Nat) : Int) := by omega
    have e32 : y / 2 ^ Int.toNat 32 = y / 4294967296 := rfl
    have hm : (y % 4294967296) % p = 0 := by rw [Int.emod_emod_of_dvd _ hdvd]; exact Int.emod_eq_zero_of_dvd hdy
    have hh0 : 0 ≤ y / 4294967296 := by omega
    have hor : bits .or .u32 (out.getD i 0) (y % 4294967296) = y % 4294967296 + out.getD i 0 := by
      refine or_u32' n hoi.1 (by rw [hp]; exact hlow) (by omega) (by rw [hp]; exact hm) ?_
      -- y mod 2^32 is a multiple of p, so at most 2^32 - p
      obtain ⟨z, hz'⟩ := Int.dvd_of_emod_eq_zero hm
      have : z < q := by
        rcases Int.lt_or_le z q with h1 | h1
        · exact h1
        · have : p * q ≤ p * z := Int.mul_le_mul_of_nonneg_left h1 (by omega)
          omega
      have : p * z ≤ p * (q - 1) := Int.mul_le_mul_of_nonneg_left (by omega) (by omega)
      rw [Int.mul_sub, hs] at this
      omega
    rw [e1, at_nat, set_nat, set_nat, e32, wrap_u32, wrap_u32, hor]
    have hlo : y % 4294967296 + out.getD i 0 < 4294967296 := by
      obtain ⟨z, hz'⟩ := Int.dvd_of_emod_eq_zero hm
      have : z < q := by
        rcases Int.lt_or_le z q with h1 | h1
        · exact h1
        · have : p * q ≤ p * z := Int.mul_le_mul_of_nonneg_left h1 (by omega)
          omega
      have : p * z ≤ p * (q - 1) := Int.mul_le_mul_of_nonneg_left (by omega) (by omega)
      rw [Int.mul_sub, hs] at this
      omega
    have hmod : y / 4294967296 % 4294967296 = y / 4294967296 := by omega
    rw [hmod]
    refine ⟨i + 1, rfl, by omega, by simp [hlen], (hw.set _ (by omega) (by omega)).set _ hh0 (by omega), fun k hk => ?_, ?_, ?_⟩
    · show ((out.set i _).set (i + 1) _).getD k 0 = 0
      rw [getD_set_of_ne (by omega), getD_set_of_ne (by omega)]
      exact hz k (by omega)
    · show ((out.set i _).set (i + 1) _).getD (i + 1) 0 < p
      rw [getD_set_self (by simp; omega)]
      exact hhi
    · show pv ((out.set i _).set (i + 1) _) (i + 1 + 1) = _
      rw [pv_set (by simp; omega), pv_set (by omega), pv, Int.pow_succ]
      rw [pv] at hpv
      have s4 := Int.add_mul (pv a i) (a.getD i 0 * 4294967296 ^ i) p
      have s1 := split_w y (4294967296 ^ i)
      have s2 := Int.add_mul (y % 4294967296) (out.getD i 0) (4294967296 ^ i)
      have s3 : a.getD i 0 * 4294967296 ^ i * p = y * 4294967296 ^ i := by rw [← hv, Int.mul_assoc, Int.mul_comm _ p, ← Int.mul_assoc]
      omega
  · obtain rfl : i = a.length := by omega
    refine h out hw hlen ?_
    have a1 := val_pv hw
    have a2 := val_pv ha
    rw [hlen, hpv, ← a2] at a1
    have : ((val a * 2 ^ n : Nat) : Int) = (val a : Int) * p := by rw [← hp]; simp
    have : (val out : Int) = ((val a * 2 ^ n : Nat) : Int) := by rw [this]; exact a1
    omega

theorem natural_right_s {a : List Int} {n : Nat} {Q : List Int → Prop} (ha : Words a) (la : SM a) (hn : n ≤ 32) (h : ∀ out, Words out → out.length = a.length → val out = val a / 2 ^ n → Q out) : natural_right_W a (n : Int) Q := by
  unfold SM at la
  unfold natural_right_W
  have hs := two_split hn
  have hpp := pow2_pos n
  have hqp := pow2_pos (32 - n)
  generalize hp : (2 : Int) ^ n = p at *
  generalize (2 : Int) ^ (32 - n) = q at *
  have hdvd : p ∣ 4294967296 := ⟨q, hs.symm⟩
  refine ⟨mk_ok (by omega) la, fun y => ∃ i : Nat, y.1 = i ∧ i ≤ a.length ∧ y.2.length = a.length ∧ Words y.2 ∧ pv y.2 i * p = pv a i - a.getD 0 0 % p + (a.getD i 0 % p) * 4294967296 ^ i, fun y => a.length - y.1.toNat,
    ⟨0, rfl, by omega, by simp [rep'], Words.rep _, by simp [pv]; omega⟩, ?_⟩
  rintro ⟨x, out⟩ ⟨i, hx, hi, hlen, hw, hpv⟩
  simp only at hx hi hlen hw hpv
  subst hx
  have h0 := ha i
  have h1 := ha (i + 1)
  have e1 : (i : Int) + 1 = ((i + 1 : Nat) : Int) := by omega
  refine condT (fun hlt => natural_word_s ha ⟨by unfold rng; omega, ?_⟩) (fun hge => ?_)
  · rw [e1]
    refine natural_word_s ha ⟨⟨by omega, by omega⟩, ⟨by omega, by omega⟩, by unfold rng; omega, ?_, by dsimp only; omega⟩
    have e32 : (2 : Int) ^ Int.toNat 32 = 4294967296 := rfl
    rw [e32, Int.toNat_natCast, hp, wrap_u64_id (by omega) (by omega), or_u64' 32 h0.1 h0.2 (by omega) (by show _ % 4294967296 = 0; omega) (by omega), set_nat, wrap_u32]
    -- (a1 W + a0) / p mod W = a0 / p + (a1 mod p) q
    generalize ha0 : a.getD i 0 = x0 at *
    generalize ha1 : a.getD (i + 1) 0 = x1 at *
    have hx0 : 0 ≤ x0 / p := Int.ediv_nonneg h0.1 (by omega)
    have hx0' : x0 / p < q := by rw [Int.ediv_lt_iff_lt_mul hpp, Int.mul_comm, hs]; exact h0.2
    have hm0 : 0 ≤ x1 % p := Int.emod_nonneg _ (by omega)
    have hm1 : x1 % p < p := Int.emod_lt_of_pos _ hpp
    have hdv : (x1 * 4294967296 + x0) / p = x1 * q + x0 / p := by
      rw [← hs, Int.mul_left_comm, Int.add_comm, Int.add_mul_ediv_left _ _ (by omega), Int.add_comm]
    have hk : (x1 * 4294967296 + x0) / p % 4294967296 = (x1 % p) * q + x0 / p := by
      have d1 : x1 = p * (x1 / p) + x1 % p := (Int.mul_ediv_add_emod x1 p).symm
      have d2 : x1 * q + x0 / p = (x1 % p) * q + x0 / p + 4294967296 * (x1 / p) := by
        have : x1 * q = (p * (x1 / p) + x1 % p) * q := by rw [← d1]
        rw [this, Int.add_mul, Int.mul_right_comm, hs]; omega
      rw [hdv, d2, Int.add_mul_emod_self_left]
      refine Int.emod_eq_of_lt ?_ ?_
      · have := Int.mul_nonneg hm0 (Int.le_of_lt hqp); omega
      · have : (x1 % p) * q ≤ (p - 1) * q := Int.mul_le_mul_of_nonneg_right (by omega) (by omega)
        rw [Int.sub_mul, hs] at this; omega
    rw [hk]
    have hq0 := Int.mul_nonneg hm0 (Int.le_of_lt hqp)
    have hq1 : (x1 % p) * q ≤ (p - 1) * q := Int.mul_le_mul_of_nonneg_right (by omega) (by omega)
    rw [Int.sub_mul, hs] at hq1
    refine ⟨i + 1, rfl, by omega, by simp [hlen], hw.set _ (by omega) (by omega), ?_⟩
    show pv (out.set i (x1 % p * q + x0 / p)) (i + 1) * p = pv a (i + 1) - _ + _
    rw [pv_set (by omega), pv, Int.add_mul, hpv, ha0, ha1, Int.pow_succ]
    have d0 : x0 = p * (x0 / p) + x0 % p := (Int.mul_ediv_add_emod x0 p).symm
    have s1 : (x1 % p * q + x0 / p) * 4294967296 ^ i * p = x1 % p * (4294967296 ^ i * 4294967296) + (p * (x0 / p)) * 4294967296 ^ i := by
      rw [Int.add_mul, Int.add_mul]
      congr 1
      · rw [← hs, Int.mul_assoc, Int.mul_assoc, Int.mul_left_comm q, Int.mul_comm q p]
      · rw [Int.mul_right_comm, Int.mul_comm (x0 / p)]
    have s2 : x0 * 4294967296 ^ i = (p * (x0 / p)) * 4294967296 ^ i + x0 % p * 4294967296 ^ i := by
      rw [← Int.add_mul, ← d0]
    omega
  · obtain rfl : i = a.length := by omega
    refine h out hw hlen ?_
    have a1 := val_pv hw
    have a2 := val_pv ha
    rw [hlen] at a1
    rw [getD_ge (Nat.le_refl a.length), Int.zero_emod, Int.zero_mul, ← a2, ← a1] at hpv
    have hr0 : 0 ≤ a.getD 0 0 % p := Int.emod_nonneg _ (by omega)
    have hr1 : a.getD 0 0 % p < p := Int.emod_lt_of_pos _ hpp
    have e : (val a : Int) / p = val out := by
      have : (val a : Int) = p * val out + a.getD 0 0 % p := by rw [Int.mul_comm]; omega
      rw [this, Int.add_comm, Int.add_mul_ediv_left _ _ (by omega), Int.ediv_eq_zero_of_lt hr0 hr1]; omega
    have e2 : ((val a / 2 ^ n : Nat) : Int) = (val a : Int) / p := by rw [← hp]; simp
    omega

theorem natural_small_s {a : List Int} {b : Int} {Q : List Int → Int → Prop} (ha : Words a) (la : SM a) (hb0 : 0 < b) (hb1 : b < 4294967296) (h : Q (lim (val a / b.toNat)) ((val a % b.toNat : Nat) : Int)) : natural_small_W a b Q := by
  unfold SM at la
  unfold natural_small_W
  rw [wrap_u64_id (by omega) (by omega)]
  refine ⟨mk_ok (by omega) la, by unfold rng; omega, fun y => ∃ j : Nat, y.2.1 = (j : Int) - 1 ∧ j ≤ a.length ∧ y.2.2.length = a.length ∧ Words y.2.2 ∧ (∀ k, k < j → y.2.2.getD k 0 = 0) ∧ 0 ≤ y.1 ∧ y.1 < b ∧ pv y.2.2 a.length * b + y.1 * 4294967296 ^ j = pv a a.length - pv a j,
    fun y => (y.2.1 + 1).toNat, ⟨a.length, rfl, by omega, by simp [rep'], Words.rep _, fun k hk => ?_, by omega, hb0, ?_⟩, ?_⟩
  · show (List.replicate a.length (0 : Int)).getD k 0 = 0
    rw [List.getD_eq_getElem?_getD, List.getElem?_replicate]; split <;> rfl
  · show pv (List.replicate a.length (0 : Int)) a.length * b + 0 * _ = _
    rw [pv_rep]; simp
  rintro ⟨r, x, out⟩ ⟨j, hx, hj, hlen, hw, hz, hr0, hr1, hpv⟩
  simp only at hx hj hlen hw hz hr0 hr1 hpv
  subst hx
  have hj1 : ((j : Int) - 1).toNat = j - 1 := by omega
  refine condT (fun hc => ⟨⟨by omega, by omega⟩, ?_⟩) (fun hc => ?_)
  · obtain ⟨i, rfl⟩ : ∃ i, j = i + 1 := ⟨j - 1, by omega⟩
    have ei : ((i + 1 : Nat) : Int) - 1 = (i : Int) := by omega
    have h0 := ha i
    have e32 : (2 : Int) ^ Int.toNat 32 = 4294967296 := rfl
    rw [ei, at_nat, e32, wrap_u64_id (by omega) (by omega), wrap_u64_id (by omega) (by omega), or_u64 32 h0.1 h0.2 (by omega) (by show _ % 4294967296 = 0; omega) (by omega)]
    refine letIn ⟨by omega, ⟨by omega, by omega⟩, by omega, by unfold rng; omega, ?_, by dsimp only; omega⟩
    generalize hv : r * 4294967296 + a.getD i 0 = v
    have hv0 : 0 ≤ v := by omega
    rw [Int.tdiv_eq_ediv_of_nonneg hv0, Int.tmod_eq_emod_of_nonneg hv0, set_nat]
    have hq0 : 0 ≤ v / b := Int.ediv_nonneg hv0 (by omega)
    have hq1 : v / b < 4294967296 := by
      rw [Int.ediv_lt_iff_lt_mul hb0, ← hv]
      have : r * 4294967296 ≤ (b - 1) * 4294967296 := Int.mul_le_mul_of_nonneg_right (by omega) (by omega)
      omega
    rw [wrap_u64_id hq0 (by omega), wrap_u32]
    have hqm : v / b % 4294967296 = v / b := by omega
    rw [hqm]
    refine ⟨i, rfl, by omega, by simp [hlen], hw.set _ hq0 hq1, fun k hk => ?_, Int.emod_nonneg _ (by omega), Int.emod_lt_of_pos _ hb0, ?_⟩
    · show (out.set i _).getD k 0 = 0
      rw [getD_set_of_ne (by omega)]; exact hz k (by omega)
    · show pv (out.set i (v / b)) a.length * b + v % b * _ = _
      rw [pv_set_full (by omega) a.length (by omega), hz i (by omega), Int.sub_zero, Int.add_mul]
      rw [pv, Int.pow_succ] at hpv
      have d0 : v = b * (v / b) + v % b := (Int.mul_ediv_add_emod v b).symm
      have s1 : v / b * 4294967296 ^ i * b + v % b * 4294967296 ^ i = v * 4294967296 ^ i := by
        rw [Int.mul_right_comm, ← Int.add_mul, Int.mul_comm (v / b), ← d0]
      have s2 : v * 4294967296 ^ i = r * (4294967296 ^ i * 4294967296) + a.getD i 0 * 4294967296 ^ i := by
        rw [← hv, Int.add_mul, Int.mul_assoc, Int.mul_comm 4294967296]
      omega
  · obtain rfl : j = 0 := by omega
    refine natural_trim_s hw (by unfold SM; omega) ?_
    have a1 := val_pv hw
    have a2 := val_pv ha
    rw [hlen] at a1
    simp only [pv, Int.pow_zero, Int.mul_one, Int.sub_zero] at hpv
    rw [← a1, ← a2] at hpv
    obtain ⟨c, rfl⟩ : ∃ c : Nat, b = c := ⟨b.toNat, by omega⟩
    rw [Int.toNat_natCast] at h
    have hq : val a / c = val out := by
      have : val a = c * val out + r.toNat := by
        have : ((val a : Nat) : Int) = ((c * val out + r.toNat : Nat) : Int) := by
          rw [Int.natCast_add, Int.natCast_mul, Int.mul_comm]; omega
        omega
      rw [this, Nat.add_comm, Nat.add_mul_div_left _ _ (by omega), Nat.div_eq_of_lt (by omega)]; omega
    have hm : val a % c = r.toNat := by
      have : val a = c * val out + r.toNat := by
        have : ((val a : Nat) : Int) = ((c * val out + r.toNat : Nat) : Int) := by
          rw [Int.natCast_add, Int.natCast_mul, Int.mul_comm]; omega
        omega
      rw [this, Nat.add_comm, Nat.add_mul_mod_self_left, Nat.mod_eq_of_lt (by omega)]
    rw [hq, hm] at h
    rw [wrap_u32]
    have e : r % 4294967296 = ((r.toNat : Nat) : Int) := by omega
    rw [e]
    exact h
end Go.Gg
namespace Go.Gg

theorem natural_Of_s {n : Int} {Q : List Int → Prop} (h1 : n ≤ 9223372036854775807) (h : Q (lim n.toNat)) : natural_Of_W n Q := by
  refine condT (fun hc => ?_) (fun hc => ?_)
  · have : n.toNat = 0 := by omega
    rw [this, lim_zero] at h; exact h
  · have e32 : (2 : Int) ^ Int.toNat 32 = 4294967296 := rfl
    rw [e32, wrap_u32, wrap_u32]
    have hw : Words [n % 4294967296, n / 4294967296 % 4294967296] := (Words.nil.cons (by omega) (by omega)).cons (by omega) (by omega)
    refine natural_trim_s hw (by simp [SM]) ?_
    have hv : val [n % 4294967296, n / 4294967296 % 4294967296] = n.toNat := by
      rw [val_cons hw, val_cons hw.tail, val_nil]; omega
    rw [hv]; exact h

theorem blen_word {a : List Int} (ha : Words a) {i : Nat} (hz : ∀ k, i < k → k < a.length → a.getD k 0 = 0) (hi : i < a.length) (hn : a.getD i 0 ≠ 0) : (blen (val a) : Int) = 32 * i + blen (a.getD i 0).toNat := by
  have h0 := ha i
  have a1 := val_pv ha
  rw [pv_zero (j := i + 1) a.length hi (fun k h1 h2 => hz k (by omega) h2), pv] at a1
  obtain ⟨b1, b2⟩ := pv_bound ha i
  obtain ⟨x, hx⟩ : ∃ x : Nat, a.getD i 0 = x := ⟨(a.getD i 0).toNat, by omega⟩
  rw [hx] at a1 hn h0 ⊢
  rw [Int.toNat_natCast]
  have hx0 : x ≠ 0 := by omega
  have c1 := blen_lt (n := x)
  have c2 := blen_le hx0
  have hb : blen x ≠ 0 := by unfold blen; rw [if_neg hx0]; omega
  have ew : ((4294967296 ^ i : Nat) : Int) = (4294967296 : Int) ^ i := by simp
  have e1 : val a = (pv a i).toNat + x * 4294967296 ^ i := by
    have : (val a : Int) = (((pv a i).toNat + x * 4294967296 ^ i : Nat) : Int) := by
      rw [a1, Int.natCast_add, Int.natCast_mul, ew]; omega
    omega
  have hlt : (pv a i).toNat < 4294967296 ^ i := by omega
  have hpw : (4294967296 : Nat) ^ i = 2 ^ (32 * i) := by rw [Nat.pow_mul]
  have : blen (val a) = 32 * i + blen x := by
    refine blen_uniq ?_ (fun _ => ?_)
    · rw [e1, Nat.pow_add, ← hpw]
      have : (x + 1) * 4294967296 ^ i ≤ 2 ^ blen x * 4294967296 ^ i := Nat.mul_le_mul_right _ c1
      rw [Nat.add_mul, Nat.mul_comm (2 ^ blen x)] at this
      omega
    · have e : 32 * i + blen x - 1 = 32 * i + (blen x - 1) := by omega
      rw [e1, e, Nat.pow_add, ← hpw]
      have : 2 ^ (blen x - 1) * 4294967296 ^ i ≤ x * 4294967296 ^ i := Nat.mul_le_mul_right _ c2
      rw [Nat.mul_comm (2 ^ (blen x - 1))] at this
      omega
  omega

theorem natural_Bits_s {a : List Int} {Q : Int → Prop} (ha : Words a) (la : SM a) (h : Q (blen (val a))) : natural_Bits_W a Q := by
  unfold SM at la
  refine ⟨by unfold rng; omega, fun x => ∃ j : Nat, x = (j : Int) - 1 ∧ j ≤ a.length ∧ ∀ k, j ≤ k → k < a.length → a.getD k 0 = 0, fun x => (x + 1).toNat, ⟨a.length, rfl, by omega, fun k h1 h2 => by omega⟩, ?_⟩
  rintro _ ⟨j, rfl, hj, hz⟩
  refine condT (fun hc => ⟨⟨by omega, by omega⟩, ?_⟩) (fun hc => ?_)
  · obtain ⟨i, rfl⟩ : ∃ i, j = i + 1 := ⟨j - 1, by omega⟩
    have ei : ((i + 1 : Nat) : Int) - 1 = (i : Int) := by omega
    rw [ei, at_nat]
    have h0 := ha i
    refine condN (fun hn => ⟨by unfold rng; omega, ⟨by omega, by omega⟩, ?_⟩) (fun he => ⟨by unfold rng; omega, ⟨i, rfl, by omega, fun k h1 h2 => ?_⟩, by dsimp only; omega⟩)
    · have hb := blen_word ha (fun k h1 h2 => hz k (by omega) h2) (by omega) hn
      obtain ⟨x, hx⟩ : ∃ x : Nat, a.getD i 0 = x := ⟨(a.getD i 0).toNat, by omega⟩
      rw [hx] at hb ⊢
      rw [Int.toNat_natCast] at hb
      have h32 := blen_le32 (x := x) (by omega)
      refine len32_s (by omega) ⟨by unfold rng; omega, ?_⟩
      rw [← hb]; exact h
    · by_cases hk : k = i
      · subst hk; exact he
      · exact hz k (by omega) h2
  · obtain rfl : j = 0 := by omega
    have : val a = 0 := by
      have a1 := val_pv ha
      rw [pv_zero (j := 0) a.length (by omega) (fun k h1 h2 => hz k h1 h2)] at a1
      simp only [pv] at a1; omega
    rw [this, blen_zero] at h
    exact h

theorem getD_drop {l : List Int} {j i : Nat} : (l.drop j).getD i 0 = l.getD (j + i) 0 := by
  rw [List.getD_eq_getElem?_getD, List.getD_eq_getElem?_getD, List.getElem?_drop]
theorem pv_drop_set {l : List Int} {o i : Nat} {x : Int} (h : o + i < l.length) : pv ((l.set (o + i) x).drop o) (i + 1) = pv (l.drop o) i + x * 4294967296 ^ i := by
  rw [pv, getD_drop, getD_set_self h]
  congr 1
  exact pv_congr i (fun k hk => by rw [getD_drop, getD_drop, getD_set_of_ne (by omega)])

/-- The part of the row from 'o' on, 'n' words, less g times v; whether that is below 0. -/
theorem natural_take_s {u v : List Int} {o n : Nat} {g : Int} {Q : List Int → Bool → Prop} (hu : Words u) (hv : Words v) (lu : SM u) (ho : o + n ≤ u.length) (hn : v.length < n) (hg0 : 0 ≤ g) (hg1 : g < 4294967296)
    (h : ∀ (w : List Int) (b : Int), Words w → w.length = u.length → (∀ k, k < o ∨ o + n ≤ k → w.getD k 0 = u.getD k 0) → (b = 0 ∨ b = 1) → pv (w.drop o) n = pv (u.drop o) n - g * val v + b * 4294967296 ^ n → Q w (b == 1)) :
    natural_take_W u o n v g Q := by
  unfold SM at lu
  refine ⟨fun y => ∃ i : Nat, y.2.2.1 = i ∧ i ≤ n ∧ y.2.2.2.length = u.length ∧ Words y.2.2.2 ∧ (∀ k, k < o ∨ o + i ≤ k → y.2.2.2.getD k 0 = u.getD k 0) ∧ 0 ≤ y.1 ∧ y.1 < 4294967296 ∧ 0 ≤ y.2.1 ∧ y.2.1 ≤ 1 ∧ 0 ≤ g * pv v i - y.1 * 4294967296 ^ i ∧ g * pv v i - y.1 * 4294967296 ^ i < 4294967296 ^ i ∧
      pv (y.2.2.2.drop o) i = pv (u.drop o) i - (g * pv v i - y.1 * 4294967296 ^ i) + y.2.1 * 4294967296 ^ i, fun y => n - y.2.2.1.toNat,
    ⟨0, rfl, by omega, rfl, hu, fun _ _ => rfl, Int.le_refl 0, by show (0 : Int) < 4294967296; omega, Int.le_refl 0, by show (0 : Int) ≤ 1; omega, by simp [pv], by simp [pv], by simp [pv]⟩, ?_⟩
  rintro ⟨c, b, x, w⟩ ⟨i, hx, hi, hlen, hw, hz, hc0, hc1, hb0, hb1, hl0, hl1, hpv⟩
  simp only at hx hi hlen hw hz hc0 hc1 hb0 hb1 hl0 hl1 hpv
  subst hx
  have hvi := hv i
  have hwi := hw (o + i)
  have eoi : (o : Int) + (i : Int) = ((o + i : Nat) : Int) := by omega
  refine condT (fun hlt => natural_word_s hv ?_) (fun hge => ?_)
  · have hm0 : 0 ≤ g * v.getD i 0 := Int.mul_nonneg hg0 hvi.1
    have hm1 : g * v.getD i 0 ≤ 4294967295 * 4294967295 := Int.mul_le_mul (by omega) (by omega) hvi.1 (by omega)
    rw [wrap_u64_id hm0 (by omega), wrap_u64_id (by omega) (by omega)]
    refine letIn ⟨⟨by omega, hlt⟩, by omega, ?_⟩
    rw [eoi, at_nat]
    generalize hc' : c + g * v.getD i 0 = d at *
    rw [wrap_u64_id hwi.1 (by omega), wrap_u32, wrap_u64_id (m := d % 4294967296) (by omega) (by omega)]
    obtain ⟨q1, q2, q3⟩ := sub_step (w.getD (o + i) 0) (d % 4294967296) b hwi (by omega) ⟨hb0, hb1⟩
    refine letIn ⟨⟨by omega, hlt⟩, by omega, by unfold rng; omega, ?_, by dsimp only; omega⟩
    generalize IntKind.u64.wrap (IntKind.u64.wrap (w.getD (o + i) 0 - d % 4294967296) - b) = e at *
    have e63 : e / 2 ^ Int.toNat 63 = e / 9223372036854775808 := rfl
    have e32 : d / 2 ^ Int.toNat 32 = d / 4294967296 := rfl
    rw [e63, e32, set_nat, wrap_u32]
    have hP := pow_pos_w i
    have p1 : pv (u.drop o) (i + 1) = pv (u.drop o) i + w.getD (o + i) 0 * 4294967296 ^ i := by rw [pv, getD_drop, hz (o + i) (by omega)]
    have p2 : g * pv v (i + 1) = g * pv v i + g * v.getD i 0 * 4294967296 ^ i := by rw [pv, Int.mul_add, Int.mul_assoc]
    have p3 := Int.pow_succ (4294967296 : Int) i
    have p0 := pv_drop_set (l := w) (o := o) (i := i) (x := e % 4294967296) (by omega)
    generalize (4294967296 : Int) ^ i = P at *
    have s1 := split_w d P
    have s3 : d * P = c * P + g * v.getD i 0 * P := by rw [← hc', Int.add_mul]
    have s5 : d % 4294967296 * P ≤ 4294967295 * P := Int.mul_le_mul_of_nonneg_right (by omega) (by omega)
    have s6 : 0 ≤ d % 4294967296 * P := Int.mul_nonneg (by omega) (by omega)
    refine ⟨i + 1, rfl, by omega, by simp [hlen], hw.set _ (by omega) (by omega), fun k hk => ?_, by show 0 ≤ d / 4294967296; omega, by show d / 4294967296 < 4294967296; omega, q2, q3, ?_, ?_, ?_⟩
    · show (w.set (o + i) _).getD k 0 = _
      rw [getD_set_of_ne (by omega)]; exact hz k (by omega)
    · show 0 ≤ g * pv v (i + 1) - d / 4294967296 * 4294967296 ^ (i + 1)
      rw [p2, p3]; omega
    · show g * pv v (i + 1) - d / 4294967296 * 4294967296 ^ (i + 1) < 4294967296 ^ (i + 1)
      rw [p2, p3]; omega
    · show pv ((w.set (o + i) (e % 4294967296)).drop o) (i + 1) = pv (u.drop o) (i + 1) - (g * pv v (i + 1) - d / 4294967296 * 4294967296 ^ (i + 1)) + e / 9223372036854775808 * 4294967296 ^ (i + 1)
      rw [p0, hpv, p1, p2, p3]
      have s0 : e % 4294967296 = w.getD (o + i) 0 - d % 4294967296 - b + 4294967296 * (e / 9223372036854775808) := by omega
      rw [s0]
      generalize e / 9223372036854775808 = b' at *
      have s4 : (w.getD (o + i) 0 - d % 4294967296 - b + 4294967296 * b') * P = w.getD (o + i) 0 * P - d % 4294967296 * P - b * P + b' * (P * 4294967296) := by
        rw [Int.add_mul, Int.sub_mul, Int.sub_mul, Int.mul_comm 4294967296 b', Int.mul_assoc b', Int.mul_comm 4294967296 P]
      rw [s4]
      generalize d / 4294967296 = d' at *
      generalize d % 4294967296 = d'' at *
      clear q1 q2 q3 s0 s4 s5 s6 hpv
      omega
  · obtain rfl : i = n := by omega
    refine h w b hw hlen hz (by omega) ?_
    have a1 := val_pv' hv (i := i) (by omega)
    have hc : c = 0 := by
      -- g v < 2^(32 n), for v has fewer than n words
      have hv1 := val_pv' hv (i := i - 1) (by omega)
      have hb' := (pv_bound hv (i - 1)).2
      have hw0 := pv_bound hw 0
      obtain ⟨m, rfl⟩ : ∃ m, i = m + 1 := ⟨i - 1, by omega⟩
      rw [Nat.add_sub_cancel] at hv1 hb'
      have hP := pow_pos_w m
      rw [Int.pow_succ] at hpv
      have hgv : g * pv v (m + 1) ≤ 4294967295 * (4294967296 ^ m - 1) := by
        rw [← a1, hv1]
        exact Int.mul_le_mul (by omega) (by omega) (pv_bound hv m).1 (by omega)
      rw [Int.pow_succ] at hl0
      generalize (4294967296 : Int) ^ m = P at *
      rcases Int.lt_or_le 0 c with hc | hc
      · have : 1 * (P * 4294967296) ≤ c * (P * 4294967296) := Int.mul_le_mul_of_nonneg_right (by omega) (by omega)
        omega
      · omega
    subst hc
    rw [a1]
    rw [hpv]; omega

theorem natural_give_s {u v : List Int} {o n : Nat} {Q : List Int → Prop} (hu : Words u) (hv : Words v) (lu : SM u) (ho : o + n ≤ u.length) (hn : v.length ≤ n)
    (h : ∀ (w : List Int) (c : Int), Words w → w.length = u.length → (∀ k, k < o ∨ o + n ≤ k → w.getD k 0 = u.getD k 0) → (c = 0 ∨ c = 1) → pv (w.drop o) n + c * 4294967296 ^ n = pv (u.drop o) n + val v → Q w) :
    natural_give_W u o n v Q := by
  unfold SM at lu
  refine ⟨fun y => ∃ i : Nat, y.2.1 = i ∧ i ≤ n ∧ y.2.2.length = u.length ∧ Words y.2.2 ∧ (∀ k, k < o ∨ o + i ≤ k → y.2.2.getD k 0 = u.getD k 0) ∧ 0 ≤ y.1 ∧ y.1 ≤ 1 ∧
      pv (y.2.2.drop o) i + y.1 * 4294967296 ^ i = pv (u.drop o) i + pv v i, fun y => n - y.2.1.toNat,
    ⟨0, rfl, by omega, rfl, hu, fun _ _ => rfl, Int.le_refl 0, by show (0 : Int) ≤ 1; omega, by simp [pv]⟩, ?_⟩
  rintro ⟨c, x, w⟩ ⟨i, hx, hi, hlen, hw, hz, hc0, hc1, hpv⟩
  simp only at hx hi hlen hw hz hc0 hc1 hpv
  subst hx
  have hvi := hv i
  have hwi := hw (o + i)
  have eoi : (o : Int) + (i : Int) = ((o + i : Nat) : Int) := by omega
  refine condT (fun hlt => ⟨⟨by omega, hlt⟩, by omega, v.getD i 0, natural_word_s hv rfl, ⟨by omega, hlt⟩, by omega, ?_⟩) (fun hge => ?_)
  · rw [eoi, at_nat, wrap_u64_id hwi.1 (by omega), wrap_u64_id (m := w.getD (o + i) 0 + v.getD i 0) (by omega) (by omega), wrap_u64_id (by omega) (by omega)]
    refine letIn ⟨by unfold rng; omega, ?_, by dsimp only; omega⟩
    have e32 : ∀ d : Int, d / 2 ^ Int.toNat 32 = d / 4294967296 := fun _ => rfl
    rw [e32, set_nat, wrap_u32]
    generalize hd : c + (w.getD (o + i) 0 + v.getD i 0) = d
    refine ⟨i + 1, rfl, by omega, by simp [hlen], hw.set _ (by omega) (by omega), fun k hk => ?_, by show 0 ≤ d / 4294967296; omega, by show d / 4294967296 ≤ 1; omega, ?_⟩
    · show (w.set (o + i) _).getD k 0 = _
      rw [getD_set_of_ne (by omega)]; exact hz k (by omega)
    · show pv ((w.set (o + i) (d % 4294967296)).drop o) (i + 1) + d / 4294967296 * 4294967296 ^ (i + 1) = pv (u.drop o) (i + 1) + pv v (i + 1)
      have p0 := pv_drop_set (l := w) (o := o) (i := i) (x := d % 4294967296) (by omega)
      have p1 : pv (u.drop o) (i + 1) = pv (u.drop o) i + w.getD (o + i) 0 * 4294967296 ^ i := by rw [pv, getD_drop, hz (o + i) (by omega)]
      have p2 : pv v (i + 1) = pv v i + v.getD i 0 * 4294967296 ^ i := by rw [pv]
      rw [p0, p1, p2, Int.pow_succ]
      have s1 := split_w d (4294967296 ^ i)
      have s3 : d * 4294967296 ^ i = c * 4294967296 ^ i + (w.getD (o + i) 0 * 4294967296 ^ i + v.getD i 0 * 4294967296 ^ i) := by rw [← hd, Int.add_mul, Int.add_mul]
      omega
  · obtain rfl : i = n := by omega
    have a1 := val_pv' hv (i := i) (by omega)
    exact h w c hw hlen hz (by omega) (by rw [a1]; exact hpv)
end Go.Gg
namespace Go.Gg

theorem pow2_split {a b c : Nat} (h : a + b = c) : (2 : Int) ^ a * 2 ^ b = 2 ^ c := by rw [← Int.pow_add, h]
theorem knuth_up {V P B top nx vl head th pl g : Int} (hV : V = (top * 4294967296 + nx) * B + vl) (hvl : 0 ≤ vl) (hP : P = (head * 4294967296 + th) * B + pl) (hpl : pl < B) (hB : 0 < B) (hg : 0 ≤ g)
    (h : head * 4294967296 + th < g * (top * 4294967296 + nx)) : P < g * V := by
  have h1 : (head * 4294967296 + th + 1) * B ≤ g * (top * 4294967296 + nx) * B := Int.mul_le_mul_of_nonneg_right (by omega) (by omega)
  have h2 : 0 ≤ g * vl := Int.mul_nonneg hg hvl
  rw [hV, Int.mul_add, ← Int.mul_assoc]
  rw [Int.add_mul] at h1
  omega
theorem knuth_lo {V P B top nx vl head th pl g : Int} (hV : V = (top * 4294967296 + nx) * B + vl) (hvl0 : 0 ≤ vl) (hvl : vl < B) (hP : P = (head * 4294967296 + th) * B + pl) (hpl : 0 ≤ pl) (hg0 : 0 ≤ g) (hg : g < 4294967296) (hVB : 4294967296 * B ≤ V)
    (h : g * (top * 4294967296 + nx) ≤ head * 4294967296 + th) : (g - 1) * V ≤ P := by
  have h1 : g * (top * 4294967296 + nx) * B ≤ (head * 4294967296 + th) * B := Int.mul_le_mul_of_nonneg_right h (by omega)
  have h2 : g * vl ≤ 4294967296 * B := Int.mul_le_mul (by omega) (by omega) hvl0 (by omega)
  rw [Int.sub_mul, hV, Int.mul_add, ← Int.mul_assoc]
  rw [← hV]
  omega
theorem pv_split {l : List Int} {i : Nat} : ∀ n, pv l (i + n) = pv l i + pv (l.drop i) n * 4294967296 ^ i
  | 0 => by simp [pv]
  | n + 1 => by
    rw [← Nat.add_assoc, pv, pv_split n, pv, getD_drop, Int.add_mul, Int.pow_add, Int.mul_assoc (l.getD (i + n) 0), Int.mul_comm (4294967296 ^ n)]
    omega
theorem pv_part {l m : List Int} {i n : Nat} (h : ∀ k, k < i ∨ i + n ≤ k → l.getD k 0 = m.getD k 0) : ∀ M, i + n ≤ M → pv l M - pv m M = (pv (l.drop i) n - pv (m.drop i) n) * 4294967296 ^ i
  | 0, hM => by
    have h1 : i = 0 := by omega
    have h2 : n = 0 := by omega
    subst h1 h2
    simp [pv]
  | M + 1, hM => by
    by_cases he : i + n = M + 1
    · rw [← he, pv_split, pv_split, pv_congr i (fun k hk => h k (.inl hk)), Int.sub_mul]; omega
    · rw [pv, pv, h M (.inr (by omega))]
      have := pv_part h M (by omega)
      omega
theorem lim_len_pow {n : Nat} (h : n ≠ 0) : 4294967296 ^ ((lim n).length - 1) ≤ n := by
  induction n using Nat.strongRecOn with
  | _ n ih =>
    rw [lim_pos (by omega)]
    simp only [List.length_cons, Nat.add_sub_cancel]
    by_cases h0 : n / 4294967296 = 0
    · rw [h0, lim_zero]; simp; omega
    · have h1 := ih _ (Nat.div_lt_self (by omega) (by omega)) h0
      have h2 : (lim (n / 4294967296)).length ≠ 0 := by rw [lim_pos (by omega)]; simp
      have e : (lim (n / 4294967296)).length = (lim (n / 4294967296)).length - 1 + 1 := by omega
      rw [e, Nat.pow_succ]
      have : 4294967296 ^ ((lim (n / 4294967296)).length - 1) * 4294967296 ≤ n / 4294967296 * 4294967296 := Nat.mul_le_mul_right _ h1
      omega
theorem lim_top {n : Nat} (h : n ≠ 0) : (lim n).getD ((lim n).length - 1) 0 ≠ 0 := by
  induction n using Nat.strongRecOn with
  | _ n ih =>
    rw [lim_pos (by omega)]
    simp only [List.length_cons, Nat.add_sub_cancel]
    by_cases h0 : n / 4294967296 = 0
    · rw [h0, lim_zero]; simp; omega
    · have h1 := ih _ (Nat.div_lt_self (by omega) (by omega)) h0
      have h2 : (lim (n / 4294967296)).length ≠ 0 := by rw [lim_pos (by omega)]; simp
      obtain ⟨k, hk⟩ : ∃ k, (lim (n / 4294967296)).length = k + 1 := ⟨_, (Nat.succ_pred_eq_of_ne_zero h2).symm⟩
      rw [hk] at h1 ⊢
      simpa using h1

/-- The estimate of a digit. -/
theorem guess_loop {top nx hd1 hd2 th V P B vl pl : Int} {next3 : Int → Prop} {G1 G2 G3 : Prop} (hG1 : G1) (hG2 : G2) (hG3 : G3) (htop0 : 2147483648 ≤ top) (htop : top < 4294967296) (hnx : 0 ≤ nx ∧ nx < 4294967296) (h1 : 0 ≤ hd1 ∧ hd1 ≤ top) (h2 : 0 ≤ hd2 ∧ hd2 < 4294967296) (h3 : 0 ≤ th ∧ th < 4294967296)
    (hV : V = (top * 4294967296 + nx) * B + vl) (hvl : 0 ≤ vl ∧ vl < B) (hP : P = ((hd1 * 4294967296 + hd2) * 4294967296 + th) * B + pl) (hpl : 0 ≤ pl ∧ pl < B) (hB : 0 < B) (hPV : P < V * 4294967296)
    (hn : ∀ g, 0 ≤ g → g < 4294967296 → P < (g + 1) * V → (g - 1) * V ≤ P → next3 g) :
    loopW (σ := Int × Int) (IntKind.u64.wrap (Int.tdiv (hd1 * 4294967296 + hd2) top), Int.tmod (hd1 * 4294967296 + hd2) top) fun ⟨guess2, rest⟩ next4 =>
      joinW (α := Unit) (fun next5 => condW (decide (4294967296 ≤ guess2)) (next5 ()) (G1 ∧ G2 ∧ G3 ∧ condW (decide (bits .or .u64 (IntKind.u64.wrap (rest * 4294967296)) th < IntKind.u64.wrap (guess2 * nx))) (next5 ()) (next3 guess2)))
        fun _ => setW (IntKind.u64.wrap (rest + top)) fun rest1 => condW (decide (4294967296 ≤ rest1)) (next3 (IntKind.u64.wrap (guess2 - 1))) (next4 (IntKind.u64.wrap (guess2 - 1), rest1)) := by
  have hhd0 : 0 ≤ hd1 * 4294967296 + hd2 := by omega
  have hVB : 4294967296 * B ≤ V := by
    have : 4294967296 * B ≤ (top * 4294967296 + nx) * B := Int.mul_le_mul_of_nonneg_right (by omega) (by omega)
    omega
  generalize hhd : hd1 * 4294967296 + hd2 = head at *
  have hhead : head ≤ top * 4294967296 + 4294967295 := by omega
  have hq0 : 0 ≤ head / top := Int.ediv_nonneg hhd0 (by omega)
  have hr0 : 0 ≤ head % top := Int.emod_nonneg _ (by omega)
  have hr1 : head % top < top := Int.emod_lt_of_pos _ (by omega)
  have hde : head = top * (head / top) + head % top := (Int.mul_ediv_add_emod head top).symm
  have hqu : head / top < 4294967298 := by
    rw [Int.ediv_lt_iff_lt_mul (by omega)]; omega
  rw [Int.tdiv_eq_ediv_of_nonneg hhd0, Int.tmod_eq_emod_of_nonneg hhd0, wrap_u64_id hq0 (by omega)]
  refine ⟨fun y => 0 ≤ y.1 ∧ y.1 < 4294967298 ∧ 0 ≤ y.2 ∧ y.2 < 4294967296 ∧ head = y.1 * top + y.2 ∧ P < (y.1 + 1) * V, fun y => y.1.toNat, ⟨hq0, hqu, hr0, by show head % top < _; omega, by show head = head / top * top + head % top; rw [Int.mul_comm]; exact hde, ?_⟩, ?_⟩
  · show P < (head / top + 1) * V
    refine knuth_up hV hvl.1 hP hpl.2 hB (by omega) ?_
    -- head < (q + 1) top
    have a1 : (head / top + 1) * top = top * (head / top) + top := by rw [Int.add_mul, Int.mul_comm]; omega
    have a2 : (head / top + 1) * (top * 4294967296 + nx) = (head / top + 1) * top * 4294967296 + (head / top + 1) * nx := by rw [Int.mul_add, Int.mul_assoc]
    have a3 : 0 ≤ (head / top + 1) * nx := Int.mul_nonneg (by omega) hnx.1
    omega
  rintro ⟨g, r⟩ ⟨hg0, hg1, hr0, hr1, hh, hU⟩
  simp only at hg0 hg1 hr0 hr1 hh hU
  have hexp : g * (top * 4294967296 + nx) = (g * top) * 4294967296 + g * nx := by rw [Int.mul_add, Int.mul_assoc]
  refine ⟨fun _ => P < g * V, condT (fun hc => ?_) (fun hc => ⟨hG1, hG2, hG3, ?_⟩), fun _ hlt => ?_⟩
  · have : V * 4294967296 ≤ g * V := by rw [Int.mul_comm V]; exact Int.mul_le_mul_of_nonneg_right hc (by omega)
    omega
  · have hgn0 : 0 ≤ g * nx := Int.mul_nonneg hg0 hnx.1
    have hgn1 : g * nx ≤ 4294967295 * 4294967295 := Int.mul_le_mul (by omega) (by omega) hnx.1 (by omega)
    rw [wrap_u64_id (m := r * 4294967296) (by omega) (by omega), wrap_u64_id hgn0 (by omega), or_u64 32 h3.1 h3.2 (by omega) (by show _ % 4294967296 = 0; omega) (by omega)]
    refine condT (fun hgt => ?_) (fun hle => ?_)
    · exact knuth_up hV hvl.1 hP hpl.2 hB hg0 (by omega)
    · exact hn g hg0 (by omega) hU (knuth_lo hV hvl.1 hvl.2 hP hpl.1 hg0 (by omega) hVB (by omega))
  · have hg1' : 1 ≤ g := by
      rcases Int.lt_or_le g 1 with h | h
      · have : g = 0 := by omega
        subst this
        have hP0 : 0 ≤ P := by
          rw [hP]
          have : 0 ≤ (head * 4294967296 + th) * B := Int.mul_nonneg (by omega) (by omega)
          omega
        simp at hlt; omega
      · exact h
    rw [wrap_u64_id (m := r + top) (by omega) (by omega), wrap_u64_id (m := g - 1) (by omega) (by omega)]
    have hsub : (g - 1) * top = g * top - top := by rw [Int.sub_mul]; omega
    have hexp2 : (g - 1) * (top * 4294967296 + nx) = ((g - 1) * top) * 4294967296 + (g - 1) * nx := by rw [Int.mul_add, Int.mul_assoc]
    refine letIn (condT (fun hc => ?_) (fun hc => ⟨⟨by show 0 ≤ g - 1; omega, by show g - 1 < _; omega, by show 0 ≤ r + top; omega, by show r + top < _; omega, by show head = (g - 1) * top + (r + top); omega, by show P < (g - 1 + 1) * V; rw [Int.sub_add_cancel]; exact hlt⟩, by show (g - 1).toNat < g.toNat; omega⟩))
    have hgW : g - 1 < 4294967296 := by
      rcases Int.lt_or_le (g - 1) 4294967296 with h | h
      · exact h
      · have : 4294967296 * top ≤ (g - 1) * top := Int.mul_le_mul_of_nonneg_right h (by omega)
        omega
    have hgn1 : (g - 1) * nx ≤ 4294967295 * 4294967295 := Int.mul_le_mul (by omega) (by omega) hnx.1 (by omega)
    refine hn (g - 1) (by omega) hgW (by rw [Int.sub_add_cancel]; exact hlt) (knuth_lo hV hvl.1 hvl.2 hP hpl.1 (by omega) hgW hVB (by omega))

set_option maxHeartbeats 2000000 in
theorem natural_Div_s {a b : List Int} {Q : List Int → List Int → Option Int → Prop} (ha : Words a) (hb : Words b) (la : a.length ≤ 1099511627774) (lb : b.length ≤ 1099511627774)
    (h0 : val b = 0 → Q [] [] (some 8)) (h : val b ≠ 0 → Q (lim (val a / val b)) (lim (val a % val b)) none) : natural_Div_W a b Q := by
  refine natural_trim_s ha (by unfold SM; omega) (natural_trim_s hb (by unfold SM; omega) ?_)
  have b1 := lim_len_le ha
  have b2 := lim_len_le hb
  have w1 := lim_words (val a)
  have w2 := lim_words (val b)
  have v1 := val_lim (val a)
  have v2 := val_lim (val b)
  refine condE (fun hc => ?_) (fun hc => ?_)
  · have : (lim (val b)).length = 0 := by omega
    have : lim (val b) = [] := List.eq_nil_of_length_eq_zero this
    rw [this, val_nil] at v2
    exact h0 v2.symm
  have hB : val b ≠ 0 := by intro hh; rw [hh, lim_zero] at hc; exact hc rfl
  replace h := h hB
  clear h0
  refine natural_Cmp_s w1 w2 (by unfold SM; omega) (by unfold SM; omega) ?_
  rw [v1, v2]
  refine condT (fun hlt => ?_) (fun hge => condE (fun h1 => ?_) (fun h1 => ?_))
  · have := cmpv_lt.1 hlt
    rw [Nat.div_eq_of_lt this, Nat.mod_eq_of_lt this, lim_zero] at h
    exact h
  · -- one word
    have hl1 : (lim (val b)).length = 1 := by omega
    have hw0 := w2 0
    have hbv : (val b : Int) = (lim (val b)).getD 0 0 := by
      have := val_pv w2
      rw [v2, hl1] at this
      simpa [pv] using this
    refine ⟨⟨by omega, by omega⟩, ?_⟩
    have e0 : at' (lim (val b)) 0 = (val b : Int) := by rw [hbv]; rfl
    rw [e0]
    have hm : val a % val b < val b := Nat.mod_lt _ (by omega)
    refine natural_small_s w1 (by unfold SM; omega) (by omega) (by omega) ?_
    rw [v1, Int.toNat_natCast, rng_wrap (by unfold rng; omega)]
    refine natural_Of_s (by omega) ?_
    rw [Int.toNat_natCast]
    exact h
  -- long division
  obtain ⟨m, hm⟩ : ∃ m, (lim (val b)).length = m + 2 := ⟨(lim (val b)).length - 2, by omega⟩
  have hge' : val b ≤ val a := by
    rcases Nat.lt_or_ge (val a) (val b) with hh | hh
    · exact absurd (cmpv_lt.2 hh) hge
    · exact hh
  have hlen : m + 2 ≤ (lim (val a)).length := by rw [← hm]; exact lim_len_mono hge'
  generalize hA : val a = A at *
  generalize hBv : val b = B at *
  have htop := lim_top hB
  have hbd : (val (lim B) : Int) = _ := val_pv w2
  rw [v2] at hbd
  have hAp : (A : Int) < 4294967296 ^ (lim A).length := by
    have := (pv_bound w1 (lim A).length).2
    have e := val_pv w1
    rw [v1] at e; omega
  generalize hla : lim A = al at *
  generalize hlb : lim B = bl at *
  rw [hm] at htop hbd
  have e21 : m + 2 - 1 = m + 1 := by omega
  rw [e21] at htop
  have hwt := w2 (m + 1)
  have hml : (bl.length : Int) - 1 = ((m + 1 : Nat) : Int) := by omega
  rw [hml]
  obtain ⟨tp, htp⟩ : ∃ x : Nat, bl.getD (m + 1) 0 = x := ⟨(bl.getD (m + 1) 0).toNat, by omega⟩
  refine ⟨by unfold rng; omega, ⟨by omega, by omega⟩, ?_⟩
  rw [at_nat, htp]
  rw [htp] at htop hwt
  have htp0 : tp ≠ 0 := by omega
  have c1 := blen_lt (n := tp)
  have c2 := blen_le htp0
  have c3 := blen_le32 (x := tp) (by omega)
  have c4 : blen tp ≠ 0 := by unfold blen; rw [if_neg htp0]; omega
  refine lz32_s (by omega) ?_
  obtain ⟨s, hs⟩ : ∃ s, 32 - blen tp = s := ⟨_, rfl⟩
  rw [hs]
  have hs31 : s ≤ 31 := by omega
  -- the divisor, shifted
  refine natural_left_s w2 (by omega) (by omega) (fun r4 hr4 hr4l hr4v => ?_)
  rw [hm] at hr4l
  rw [v2] at hr4v
  refine ⟨⟨by omega, by omega, by omega⟩, letIn ?_⟩
  have hvl : (sub' r4 0 (bl.length : Int)) = r4.take (m + 2) := by
    show (r4.drop 0).take (((bl.length : Nat) : Int).toNat - 0) = _
    rw [Int.toNat_natCast, hm]; rfl
  rw [hvl]
  have hvlen : (r4.take (m + 2)).length = m + 2 := by rw [List.length_take, hr4l]; omega
  -- B 2^s lies from 2^(32 (m+2)) / 2 to 2^(32 (m+2))
  have hPm := pow_pos_w m
  have ew : (4294967296 : Int) ^ (m + 2) = 4294967296 ^ m * 4294967296 * 4294967296 := by rw [Int.pow_succ, Int.pow_succ]
  have ew1 : (4294967296 : Int) ^ (m + 1) = 4294967296 ^ m * 4294967296 := Int.pow_succ ..
  have hbd2 : (B : Int) = pv bl m + bl.getD m 0 * 4294967296 ^ m + tp * (4294967296 ^ m * 4294967296) := by rw [hbd, pv, pv, htp, ew1]
  have hbm := pv_bound w2 m
  have hbm1 := w2 m
  have hlow : bl.getD m 0 * 4294967296 ^ m ≤ 4294967295 * 4294967296 ^ m := Int.mul_le_mul_of_nonneg_right (by omega) (by omega)
  have hlow0 : 0 ≤ bl.getD m 0 * 4294967296 ^ m := Int.mul_nonneg hbm1.1 (by omega)
  have hps := pow2_pos s
  have hts : (tp : Int) * 2 ^ s < 4294967296 ∧ 2147483648 ≤ (tp : Int) * 2 ^ s := by
    have e1 : (2 : Int) ^ (blen tp) * 2 ^ s = 4294967296 := pow2_split (c := 32) (by omega)
    have e2 : (2 : Int) ^ (blen tp - 1) * 2 ^ s = 2147483648 := pow2_split (c := 31) (by omega)
    have f1 : (tp : Int) + 1 ≤ 2 ^ (blen tp) := by exact_mod_cast c1
    have f2 : (2 : Int) ^ (blen tp - 1) ≤ tp := by exact_mod_cast c2
    have g1 : ((tp : Int) + 1) * 2 ^ s ≤ 2 ^ (blen tp) * 2 ^ s := Int.mul_le_mul_of_nonneg_right f1 (by omega)
    have g2 : (2 : Int) ^ (blen tp - 1) * 2 ^ s ≤ tp * 2 ^ s := Int.mul_le_mul_of_nonneg_right f2 (by omega)
    rw [Int.add_mul] at g1
    omega
  have hVval : ((val r4 : Nat) : Int) = (B : Int) * 2 ^ s := by rw [hr4v]; simp
  have hr4p := val_pv hr4
  rw [hr4l] at hr4p
  have hVlt : (val r4 : Int) < 4294967296 ^ (m + 2) := by
    -- (tp + 1) 2^s W^(m+1) <= W^(m+2)
    have k1 : (B : Int) + 1 ≤ (tp + 1) * (4294967296 ^ m * 4294967296) := by rw [Int.add_mul]; omega
    have k2 : ((B : Int) + 1) * 2 ^ s ≤ ((tp + 1) * (4294967296 ^ m * 4294967296)) * 2 ^ s := Int.mul_le_mul_of_nonneg_right k1 (by omega)
    have k3 : (((tp : Int) + 1) * 2 ^ s) ≤ 4294967296 := by
      have f1 : (tp : Int) + 1 ≤ 2 ^ (blen tp) := by exact_mod_cast c1
      have e1 : (2 : Int) ^ (blen tp) * 2 ^ s = 4294967296 := pow2_split (c := 32) (by omega)
      have g1 : ((tp : Int) + 1) * 2 ^ s ≤ 2 ^ (blen tp) * 2 ^ s := Int.mul_le_mul_of_nonneg_right f1 (by omega)
      omega
    have k4 : (((tp : Int) + 1) * 2 ^ s) * (4294967296 ^ m * 4294967296) ≤ 4294967296 * (4294967296 ^ m * 4294967296) := Int.mul_le_mul_of_nonneg_right k3 (by omega)
    rw [Int.mul_right_comm] at k2
    rw [Int.add_mul] at k2
    rw [hVval, ew]
    omega
  have hVge : 2147483648 * (4294967296 ^ m * 4294967296) ≤ (val r4 : Int) := by
    have k1 : (tp : Int) * (4294967296 ^ m * 4294967296) ≤ B := by omega
    have k2 : (tp : Int) * (4294967296 ^ m * 4294967296) * 2 ^ s ≤ B * 2 ^ s := Int.mul_le_mul_of_nonneg_right k1 (by omega)
    have k3 : 2147483648 * (4294967296 ^ m * 4294967296) ≤ (tp : Int) * 2 ^ s * (4294967296 ^ m * 4294967296) := Int.mul_le_mul_of_nonneg_right hts.2 (by omega)
    rw [Int.mul_right_comm] at k2
    omega
  -- the highest word of the shifted divisor is zero
  have hVp : (val r4 : Int) = pv (r4.take (m + 2)) (m + 2) := by
    rw [hr4p] at hVlt ⊢
    rw [pv_take (Nat.le_refl _)]
    exact pv_high hr4 (by omega) hVlt
  have hwv : Words (r4.take (m + 2)) := hr4.take _
  have hvv : val (r4.take (m + 2)) = val r4 := by
    have := val_pv hwv
    rw [hvlen, ← hVp] at this; omega
  generalize hv : r4.take (m + 2) = v at *
  generalize hVV : val r4 = V at *
  clear hr4 hr4l hr4p hvl
  -- the dividend, shifted
  refine natural_left_s w1 (by omega) (by omega) (fun u hu hul huv => ?_)
  rw [v1] at huv
  have hvl1 : (v.length : Int) - 1 = ((m + 1 : Nat) : Int) := by omega
  have hvl2 : (v.length : Int) - 2 = (m : Int) := by omega
  obtain ⟨K, hK⟩ : ∃ K, al.length = K + (m + 2) := ⟨al.length - (m + 2), by omega⟩
  have hkl : (u.length : Int) - (v.length : Int) = ((K + 1 : Nat) : Int) := by omega
  rw [hvl1, hvl2, hkl]
  refine ⟨by unfold rng; omega, ⟨by omega, by omega⟩, by unfold rng; omega, ⟨by omega, by omega⟩, by unfold rng; omega, mk_ok (by omega) (by omega), by unfold rng; omega, letIn ?_⟩
  rw [Int.toNat_natCast]
  have hU : (val u : Int) < V * 4294967296 ^ (K + 1) := by
    have k0 : ((val u : Nat) : Int) = (A : Int) * 2 ^ s := by rw [huv]; simp
    have k1 : (2 : Int) ^ s ≤ 2147483648 := by
      have : (2 : Int) ^ s * 2 ^ (31 - s) = 2147483648 := pow2_split (c := 31) (by omega)
      have h2 := pow2_pos (31 - s)
      have : (2 : Int) ^ s * 1 ≤ 2 ^ s * 2 ^ (31 - s) := Int.mul_le_mul_of_nonneg_left (by omega) (by omega)
      omega
    have k2 : (A : Int) * 2 ^ s < 4294967296 ^ al.length * 2 ^ s := Int.mul_lt_mul_of_pos_right hAp hps
    have k3 : (4294967296 : Int) ^ al.length * 2 ^ s ≤ 4294967296 ^ al.length * 2147483648 := Int.mul_le_mul_of_nonneg_left k1 (by have := pow_pos_w al.length; omega)
    have k4 : (4294967296 : Int) ^ al.length = 4294967296 ^ m * 4294967296 * 4294967296 ^ (K + 1) := by
      rw [hK, ← Int.pow_succ, ← Int.pow_add]; congr 1; omega
    rw [k4] at k2 k3
    have k6 : (2147483648 : Int) * (4294967296 ^ m * 4294967296 * 4294967296 ^ (K + 1)) = 4294967296 ^ m * 4294967296 * 4294967296 ^ (K + 1) * 2147483648 := Int.mul_comm _ _
    have k7 : (2147483648 : Int) * (4294967296 ^ m * 4294967296) * 4294967296 ^ (K + 1) = 2147483648 * (4294967296 ^ m * 4294967296 * 4294967296 ^ (K + 1)) := Int.mul_assoc ..
    have hPK := pow_pos_w (K + 1)
    have k8 : (2147483648 : Int) * (4294967296 ^ m * 4294967296) * 4294967296 ^ (K + 1) ≤ (V : Int) * 4294967296 ^ (K + 1) := Int.mul_le_mul_of_nonneg_right hVge (Int.le_of_lt hPK)
    omega
  have hup := val_pv hu
  have hulk : u.length = K + m + 3 := by omega
  rw [hulk] at hup
  have hvm := hwv m
  have hvm1 := hwv (m + 1)
  have hVexp : (V : Int) = (v.getD (m + 1) 0 * 4294967296 + v.getD m 0) * 4294967296 ^ m + pv v m := by
    rw [hVp, pv, pv, ew1, Int.add_mul, Int.mul_assoc, Int.mul_comm 4294967296]; omega
  have hvlo := pv_bound hwv m
  have htopge : 2147483648 ≤ v.getD (m + 1) 0 := by
    rcases Int.lt_or_le (v.getD (m + 1) 0) 2147483648 with hh | hh
    · exfalso
      have k1 : (v.getD (m + 1) 0 * 4294967296 + v.getD m 0 + 1) * 4294967296 ^ m ≤ (2147483647 * 4294967296 + 4294967296) * 4294967296 ^ m := Int.mul_le_mul_of_nonneg_right (by omega) (by omega)
      rw [Int.add_mul] at k1
      omega
    · exact hh
  have hV0 : 0 < (V : Int) := by omega
  refine ⟨fun y => ∃ j : Nat, y.1 = (j : Int) - 1 ∧ j ≤ K + 1 ∧ y.2.1.length = K + m + 3 ∧ Words y.2.1 ∧ y.2.2.length = K + 1 ∧ Words y.2.2 ∧ (∀ k, k < j → y.2.2.getD k 0 = 0) ∧
      (val u : Int) = pv y.2.2 (K + 1) * V + pv y.2.1 (K + m + 3) ∧ pv y.2.1 (K + m + 3) < V * 4294967296 ^ j, fun y => (y.1 + 1).toNat,
    ⟨K + 1, rfl, Nat.le_refl _, hulk, hu, by simp [rep'], Words.rep _, fun k hk => ?_, ?_, ?_⟩, ?_⟩
  · show (List.replicate (K + 1) (0 : Int)).getD k 0 = 0
    rw [List.getD_eq_getElem?_getD, List.getElem?_replicate]; split <;> rfl
  · show (val u : Int) = pv (List.replicate (K + 1) (0 : Int)) (K + 1) * V + pv u (K + m + 3)
    rw [pv_rep, ← hup]; omega
  · show pv u (K + m + 3) < _
    rw [← hup]; exact hU
  clear hU hup hulk hul hu
  rintro ⟨x, u1, q⟩ ⟨j, hx, hj, hul1, hu1, hql, hq, hqz, hsum, hrem⟩
  simp only at hx hj hul1 hu1 hql hq hqz hsum hrem
  subst hx
  refine condT (fun hc => ?_) (fun hc => ?_)
  · obtain ⟨i, rfl⟩ : ∃ i, j = i + 1 := ⟨j - 1, by omega⟩
    have ei : ((i + 1 : Nat) : Int) - 1 = (i : Int) := by omega
    have f1 : (i : Int) + (v.length : Int) = ((i + (m + 2) : Nat) : Int) := by omega
    have f2 : ((i + (m + 2) : Nat) : Int) - 1 = ((i + (m + 1) : Nat) : Int) := by omega
    have f3 : ((i + (m + 2) : Nat) : Int) - 2 = ((i + m : Nat) : Int) := by omega
    have f4 : ((i + (m + 2) : Nat) : Int) + 1 = ((i + (m + 3) : Nat) : Int) := by omega
    have f5 : 0 + Int.toNat (i : Int) = i := by omega
    have f6 : Int.toNat ((i + (m + 3) : Nat) : Int) - Int.toNat (i : Int) = m + 3 := by omega
    have h1 := hu1 (i + (m + 2))
    have h2 := hu1 (i + (m + 1))
    have h3 := hu1 (i + m)
    have e32 : (2 : Int) ^ Int.toNat 32 = 4294967296 := rfl
    have g1 := wrap_u64_id (m := u1.getD (i + (m + 2)) 0) (by omega) (by omega)
    have g2 := wrap_u64_id (m := u1.getD (i + (m + 1)) 0) (by omega) (by omega)
    have g3 := wrap_u64_id (m := u1.getD (i + m) 0) (by omega) (by omega)
    have g4 := wrap_u64_id (m := v.getD (m + 1) 0) (by omega) (by omega)
    have g5 := wrap_u64_id (m := v.getD m 0) (by omega) (by omega)
    have g6 := wrap_u64_id (m := u1.getD (i + (m + 2)) 0 * 4294967296) (by omega) (by omega)
    have g7 := or_u64 (x := u1.getD (i + (m + 1)) 0) (y := u1.getD (i + (m + 2)) 0 * 4294967296) 32 h2.1 h2.2 (by omega) (by show _ % 4294967296 = 0; omega) (by omega)
    simp only [ei, f1, f2, f3, f4, f5, f6, at_nat, e32, g1, g2, g3, g4, g5, g6, g7]
    -- the part that is divided
    obtain ⟨P, hPd⟩ : ∃ P, P = pv (u1.drop i) (m + 3) := ⟨_, rfl⟩
    have hPi := pow_pos_w i
    have hud : Words (u1.drop i) := hu1.drop i
    have hPb := pv_bound hud (m + 3)
    have htot : pv u1 (K + m + 3) = pv u1 i + P * 4294967296 ^ i := by
      have k0 : K + m + 3 = i + ((m + 3) + (K - i)) := by omega
      rw [k0, pv_split]
      congr 2
      rw [hPd]
      refine pv_high hud (by omega) ?_
      rw [k0, pv_split, Int.pow_succ] at hrem
      have k1 := (pv_bound hu1 i).1
      have k2 : pv (u1.drop i) (m + 3 + (K - i)) * 4294967296 ^ i < (V * 4294967296) * 4294967296 ^ i := by
        rw [Int.mul_assoc, Int.mul_comm 4294967296]; omega
      have k3 := Int.lt_of_mul_lt_mul_right k2 (Int.le_of_lt hPi)
      have k4 : (4294967296 : Int) ^ (m + 3) = 4294967296 ^ (m + 2) * 4294967296 := Int.pow_succ ..
      omega
    have hPV : P < V * 4294967296 := by
      have k1 := (pv_bound hu1 i).1
      rw [htot, Int.pow_succ] at hrem
      have k2 : P * 4294967296 ^ i < (V * 4294967296) * 4294967296 ^ i := by
        rw [Int.mul_assoc, Int.mul_comm 4294967296]; omega
      exact Int.lt_of_mul_lt_mul_right k2 (Int.le_of_lt hPi)
    have hP0 : 0 ≤ P := by rw [hPd]; exact hPb.1
    have hPexp : P = ((u1.getD (i + (m + 2)) 0 * 4294967296 + u1.getD (i + (m + 1)) 0) * 4294967296 + u1.getD (i + m) 0) * 4294967296 ^ m + pv (u1.drop i) m := by
      rw [hPd, pv, pv, pv, getD_drop, getD_drop, getD_drop, ew, ew1]
      generalize (4294967296 : Int) ^ m = B
      generalize pv (u1.drop i) m = z
      grind
    have hhd : u1.getD (i + (m + 2)) 0 ≤ v.getD (m + 1) 0 := by
      rcases Int.lt_or_le (v.getD (m + 1) 0) (u1.getD (i + (m + 2)) 0) with hh | hh
      · exfalso
        have k1 : (v.getD (m + 1) 0 + 1) * (4294967296 ^ m * 4294967296 * 4294967296) ≤ u1.getD (i + (m + 2)) 0 * (4294967296 ^ m * 4294967296 * 4294967296) := Int.mul_le_mul_of_nonneg_right (by omega) (by omega)
        have k2 : P = u1.getD (i + (m + 2)) 0 * (4294967296 ^ m * 4294967296 * 4294967296) + pv (u1.drop i) (m + 2) := by rw [hPd, pv, getD_drop, ew]; omega
        have k3 := (pv_bound hud (m + 2)).1
        have k4 : (V : Int) = v.getD (m + 1) 0 * (4294967296 ^ m * 4294967296) + pv v (m + 1) := by rw [hVp, pv, ew1]; omega
        have k5 := (pv_bound hwv (m + 1)).2
        rw [ew1] at k5
        have k6 : (V : Int) * 4294967296 < (v.getD (m + 1) 0 + 1) * (4294967296 ^ m * 4294967296 * 4294967296) := by
          rw [Int.add_mul, ← Int.mul_assoc (v.getD (m + 1) 0), k4]; omega
        omega
      · exact hh
    refine ⟨by unfold rng; omega, ⟨by omega, by omega⟩, by unfold rng; omega, by unfold rng; omega, ⟨by omega, by omega⟩, by omega, by omega, fun g => 0 ≤ g ∧ g < 4294967296 ∧ P < (g + 1) * V ∧ (g - 1) * V ≤ P,
      guess_loop (next3 := fun g => 0 ≤ g ∧ g < 4294967296 ∧ P < (g + 1) * V ∧ (g - 1) * V ≤ P) (G1 := rng ((i + (m + 2) : Nat) : Int)) (G2 := rng ((i + m : Nat) : Int)) (G3 := (0 : Int) ≤ ((i + m : Nat) : Int) ∧ ((i + m : Nat) : Int) < (u1.length : Int)) (by unfold rng; omega) (by unfold rng; omega) ⟨by omega, by omega⟩ htopge hvm1.2 hvm ⟨h1.1, hhd⟩ h2 h3 hVexp hvlo hPexp (pv_bound hud m) hPm hPV (fun g a1 a2 a3 a4 => ⟨a1, a2, a3, a4⟩), ?_⟩
    rintro g ⟨hg0, hg1, hgU, hgL⟩
    have hPW : (4294967296 : Int) ^ (m + 3) = 4294967296 ^ (m + 2) * 4294967296 := Int.pow_succ ..
    refine ⟨fun y => Words y.2 ∧ y.2.length = K + m + 3 ∧ (∀ k, k < i ∨ i + (m + 3) ≤ k → y.2.getD k 0 = u1.getD k 0) ∧ 0 ≤ y.1 ∧ y.1 < 4294967296 ∧ pv (y.2.drop i) (m + 3) = P - y.1 * V ∧ P - y.1 * V < V, ?_, ?_⟩
    · refine ⟨by unfold rng; omega, by unfold rng; omega, ⟨by omega, by omega, by omega⟩, ?_⟩
      refine natural_take_s hu1 hwv (by unfold SM; omega) (by omega) (by omega) hg0 hg1 (fun w b hw hwl hwz hb hwp => ⟨hwl, ?_⟩)
      rw [hvv, ← hPd] at hwp
      have hwd := pv_bound (hw.drop i) (m + 3)
      have hgs : (g - 1) * (V : Int) = g * V - V := by rw [Int.sub_mul]; omega
      have hga : (g + 1) * (V : Int) = g * V + V := by rw [Int.add_mul]; omega
      rcases hb with rfl | rfl
      · refine ⟨fun hh => (by cases hh), fun _ => ⟨hw, by show w.length = _; omega, hwz, hg0, hg1, ?_, ?_⟩⟩
        · show pv (w.drop i) (m + 3) = P - g * V
          omega
        · show P - g * V < V
          omega
      · refine ⟨fun _ => ⟨by unfold rng; omega, by unfold rng; omega, ⟨by omega, by omega, by omega⟩, ?_⟩, fun hh => by cases hh⟩
        refine natural_give_s hw hwv (by unfold SM; omega) (by omega) (by omega) (fun w' c hw' hwl' hwz' hc' hwp' => ⟨hwl', ?_⟩)
        rw [hvv] at hwp'
        have hwd' := pv_bound (hw'.drop i) (m + 3)
        have hg1' : 1 ≤ g := by
          rcases Int.lt_or_le g 1 with hh | hh
          · have : g = 0 := by omega
            subst this
            omega
          · exact hh
        rw [wrap_u64_id (m := g - 1) (by omega) (by omega)]
        refine ⟨hw', by show w'.length = _; omega, fun k hk => ?_, by show 0 ≤ g - 1; omega, by show g - 1 < _; omega, ?_, ?_⟩
        · show w'.getD k 0 = _
          rw [hwz' k hk, hwz k hk]
        · show pv (w'.drop i) (m + 3) = P - (g - 1) * V
          rcases hc' with rfl | rfl <;> omega
        · show P - (g - 1) * V < V
          omega
    · rintro ⟨g', u2⟩ ⟨hu2, hul2, hz2, hg0', hg1', hp2, hr2⟩
      simp only at hu2 hul2 hz2 hg0' hg1' hp2 hr2
      refine ⟨⟨by omega, by omega⟩, by unfold rng; omega, ⟨i, rfl, by omega, hul2, hu2, by simp [set', hql], ?_, fun k hk => ?_, ?_, ?_⟩, by first | omega | (dsimp only; omega)⟩
      · rw [wrap_u32, set_nat]; exact hq.set _ (by omega) (by omega)
      · show (set' q (i : Int) _).getD k 0 = 0
        rw [set_nat, getD_set_of_ne (by omega)]; exact hqz k (by omega)
      · show (val u : Int) = pv (set' q (i : Int) (IntKind.u32.wrap g')) (K + 1) * V + pv u2 (K + m + 3)
        have k0 := pv_part hz2 (K + m + 3) (by omega)
        have hgm : g' % 4294967296 = g' := by omega
        rw [set_nat, wrap_u32, hgm, pv_set_full (by omega) (K + 1) (by omega), hqz i (by omega), Int.sub_zero, hsum, Int.add_mul]
        rw [hp2, ← hPd] at k0
        have k1 : (P - g' * V - P) * 4294967296 ^ i = - (g' * 4294967296 ^ i * V) := by
          have : P - g' * V - P = - (g' * V) := by omega
          rw [this, Int.neg_mul, Int.mul_right_comm]
        omega
      · show pv u2 (K + m + 3) < V * 4294967296 ^ i
        have k0 := pv_part hz2 (K + m + 3) (by omega)
        rw [hp2, ← hPd, htot] at k0
        have k1 := (pv_bound hu1 i).2
        have k2 : (P - g' * V + 1) * 4294967296 ^ i ≤ V * 4294967296 ^ i := Int.mul_le_mul_of_nonneg_right (by omega) (by omega)
        have k3 : (P - g' * V - P) * 4294967296 ^ i = (P - g' * V) * 4294967296 ^ i - P * 4294967296 ^ i := by rw [Int.sub_mul]
        rw [Int.add_mul] at k2
        omega
  · obtain rfl : j = 0 := by omega
    rw [Int.pow_zero, Int.mul_one] at hrem
    have hq1 := val_pv hq
    have hu1v := val_pv hu1
    rw [hql] at hq1
    rw [hul1] at hu1v
    rw [← hq1, ← hu1v] at hsum
    rw [← hu1v] at hrem
    have hsumN : val u = val q * V + val u1 := by
      have : ((val u : Nat) : Int) = ((val q * V + val u1 : Nat) : Int) := by rw [Int.natCast_add, Int.natCast_mul]; exact hsum
      omega
    have hVB : V = B * 2 ^ s := hr4v
    have hps' : 0 < 2 ^ s := Nat.pow_pos (by omega)
    have hV0' : 0 < V := by omega
    have hdiv : A / B = val q := by
      have k1 : A * 2 ^ s / (B * 2 ^ s) = A / B := Nat.mul_div_mul_right _ _ hps'
      rw [← k1, ← huv, ← hVB, hsumN, Nat.add_comm, Nat.add_mul_div_right _ _ hV0', Nat.div_eq_of_lt (by omega)]; omega
    have hmod : A % B = val u1 / 2 ^ s := by
      have k1 : A * 2 ^ s % (B * 2 ^ s) = A % B * 2 ^ s := Nat.mul_mod_mul_right _ _ _
      rw [← huv, ← hVB, hsumN, Nat.add_comm, Nat.add_mul_mod_self_right, Nat.mod_eq_of_lt (by omega)] at k1
      rw [k1, Nat.mul_div_cancel _ hps']
    refine natural_trim_s hq (by unfold SM; omega) (natural_right_s hu1 (by unfold SM; omega) (by omega) (fun r hr hrl hrv => natural_trim_s hr (by unfold SM; omega) ?_))
    rw [hrv, ← hmod, ← hdiv]
    exact h

theorem natural_Gcd_s {a b : List Int} {Q : List Int → Prop} (ha : Words a) (hb : Words b) (la : a.length ≤ 1099511627774) (lb : b.length ≤ 1099511627774) (h : Q (lim (Nat.gcd (val a) (val b)))) : natural_Gcd_W a b Q := by
  refine natural_trim_s ha (by unfold SM; omega) (natural_trim_s hb (by unfold SM; omega) ?_)
  have b1 := lim_len_le ha
  have b2 := lim_len_le hb
  refine ⟨fun y => ∃ m n : Nat, y = (lim m, lim n) ∧ (lim m).length ≤ 1099511627774 ∧ (lim n).length ≤ 1099511627774 ∧ Nat.gcd m n = Nat.gcd (val a) (val b), fun y => val y.2, ⟨_, _, rfl, by omega, by omega, rfl⟩, ?_⟩
  rintro _ ⟨m, n, rfl, hm, hn, hg⟩
  refine condT (fun hc => ?_) (fun hc => ?_)
  · have hn0 : n ≠ 0 := by rintro rfl; rw [lim_zero] at hc; simp at hc
    refine natural_Div_s (lim_words m) (lim_words n) hm hn (fun h0 => absurd (by rw [val_lim] at h0; exact h0) hn0) (fun _ => ?_)
    rw [val_lim, val_lim]
    have hlt := Nat.mod_lt m (Nat.pos_of_ne_zero hn0)
    refine ⟨⟨n, m % n, rfl, hn, Nat.le_trans (lim_len_mono (Nat.le_of_lt hlt)) hn, ?_⟩, ?_⟩
    · rw [← hg, Nat.gcd_comm n, ← Nat.gcd_rec, Nat.gcd_comm]
    · show val (lim (m % n)) < val (lim n)
      rw [val_lim, val_lim]; exact hlt
  · have hn0 : n = 0 := by
      rcases Nat.eq_zero_or_pos n with h0 | h0
      · exact h0
      · rw [lim_pos h0] at hc; simp at hc
    subst hn0
    rw [Nat.gcd_zero_right] at hg
    rw [← hg] at h
    exact h
end Go.Gg
namespace Go.Gg

theorem pv_snoc {l : List Int} {n : Nat} {x : Int} (h : l.length = n) : pv (l ++ [x]) (n + 1) = pv l n + x * 4294967296 ^ n := by
  rw [pv, pv_append (by omega), getD_append_r (by omega)]
  have : n - l.length = 0 := by omega
  rw [this]; rfl
theorem Words.one {x : Int} (h0 : 0 ≤ x) (h1 : x < 4294967296) : Words [x] := Words.nil.cons h0 h1
theorem app_ok {l : List Int} {x : Int} (h : l.length ≤ 1099511627776) : (l ++ [x]).length * 4 ≤ 140737488355328 := by simp; omega

theorem ref01_word_s {a : List Int} {i : Nat} {Q : Int → Prop} (hw : Words a) (h : Q (a.getD i 0)) : ref01_word_W a (i : Int) Q := by
  refine condT (fun hc => ⟨⟨by omega, hc⟩, ?_⟩) (fun hc => ?_)
  · rw [at_nat]
    have := hw i
    rw [wrap_u64_id (by omega) (by omega)]
    exact h
  · rw [getD_ge (by omega)] at h
    exact h
theorem ref01_Trim_s {a : List Int} {Q : List Int → Prop} (hw : Words a) (hl : SM a) (h : Q (lim (val a))) : ref01_Trim_W a Q := by
  refine ⟨fun n => ∃ j : Nat, n = j ∧ j ≤ a.length ∧ (∀ i, j ≤ i → i < a.length → a.getD i 0 = 0) ∧ (0 < j → a.getD (j - 1) 0 ≠ 0), ?_, ?_⟩
  · refine ⟨fun n => ∃ j : Nat, n = j ∧ j ≤ a.length ∧ (∀ i, j ≤ i → i < a.length → a.getD i 0 = 0), fun n => n.toNat, ⟨a.length, rfl, Nat.le_refl _, fun i h1 h2 => by omega⟩, ?_⟩
    rintro n ⟨j, rfl, hj, hz⟩
    refine condT (fun hc => ⟨by unfold rng; omega, ⟨by omega, by omega⟩, condE (fun he => ⟨by unfold rng; omega, ⟨j - 1, by omega, by omega, fun i h1 h2 => ?_⟩, by dsimp only; omega⟩) (fun he => ⟨j, rfl, hj, hz, fun _ => ?_⟩)⟩) (fun hc => ⟨j, rfl, hj, hz, fun h0 => by omega⟩)
    · by_cases hi : i = j - 1
      · subst hi
        rw [at_int] at he
        have : ((j : Int) - 1).toNat = j - 1 := by omega
        rwa [this] at he
      · exact hz i (by omega) h2
    · rw [at_int] at he
      have : ((j : Int) - 1).toNat = j - 1 := by omega
      rwa [this] at he
  · rintro n ⟨j, rfl, hj, hz, hlast⟩
    have e := lim_take hw hj hz hlast
    refine ⟨⟨by omega, by omega, by omega⟩, ?_, ?_⟩
    · simp [sub']
      have : min j a.length ≤ a.length := by omega
      omega
    · rw [← e] at h
      simpa [sub'] using h
theorem ref01_Cmp_s {a b : List Int} {Q : Int → Prop} (ha : Words a) (hb : Words b) (la : SM a) (lb : SM b) (h : Q (cmpv (val a) (val b))) : ref01_Cmp_W a b Q := by
  unfold SM at la lb
  obtain ⟨N, hN⟩ : ∃ N, N = max a.length b.length := ⟨_, rfl⟩
  have hNi : max (a.length : Int) (b.length : Int) = (N : Int) := by omega
  have v1 := val_pv' ha (i := N) (by omega)
  have v2 := val_pv' hb (i := N) (by omega)
  unfold ref01_Cmp_W
  rw [hNi]
  refine ⟨by unfold rng; omega, letIn ⟨fun i => ∃ j : Nat, i = (j : Int) - 1 ∧ j ≤ N ∧ (∀ k, j ≤ k → k < N → a.getD k 0 = b.getD k 0), fun i => (i + 1).toNat, ⟨N, rfl, Nat.le_refl _, fun k h1 h2 => by omega⟩, ?_⟩⟩
  rintro _ ⟨j, rfl, hj, he⟩
  refine condT (fun hc => ?_) (fun hc => ?_)
  · obtain ⟨i, rfl⟩ : ∃ i, j = i + 1 := ⟨j - 1, by omega⟩
    have ei : ((i + 1 : Nat) : Int) - 1 = (i : Int) := by omega
    rw [ei]
    refine ref01_word_s ha (ref01_word_s hb (condT (fun h1 => ?_) (fun h1 => ref01_word_s ha (ref01_word_s hb (condT (fun h2 => ?_) (fun h2 => ⟨by unfold rng; omega, ⟨i, rfl, by omega, fun k h3 h4 => ?_⟩, by dsimp only; omega⟩))))))
    · have := pv_lt ha hb (i := i) (n := N) (by omega) h1 (fun k h1 h2 => he k (by omega) h2)
      rw [cmpv, if_pos (by omega)] at h; exact h
    · have := pv_lt hb ha (i := i) (n := N) (by omega) h2 (fun k h1 h2 => (he k (by omega) h2).symm)
      rw [cmpv, if_neg (by omega), if_neg (by omega)] at h; exact h
    · by_cases hk : k = i
      · subst hk; omega
      · exact he k (by omega) h4
  · have := pv_congr (l := a) (m := b) N (fun k hk => he k (by omega) hk)
    rw [cmpv, if_neg (by omega), if_pos (by omega)] at h; exact h
theorem ref01_Add_s {a b : List Int} {Q : List Int → Prop} (ha : Words a) (hb : Words b) (lb : a.length ≤ 1099511627775 ∧ b.length ≤ 1099511627775) (h : Q (lim (val a + val b))) : ref01_Add_W a b Q := by
  obtain ⟨n, hn0⟩ : ∃ n, n = max a.length b.length + 1 := ⟨_, rfl⟩
  have hn : max (a.length : Int) (b.length : Int) + 1 = (n : Int) := by omega
  unfold ref01_Add_W
  rw [hn]
  refine ⟨by unfold rng; omega, ?_⟩
  refine ⟨fun y => ∃ i : Nat, y.2.1 = i ∧ i ≤ n ∧ y.2.2.length = i ∧ Words y.2.2 ∧ 0 ≤ y.1 ∧ y.1 ≤ 1 ∧ pv y.2.2 i + y.1 * 4294967296 ^ i = pv a i + pv b i, fun y => n - y.2.1.toNat, ⟨0, rfl, by omega, rfl, Words.nil, by show (0 : Int) ≤ 0; omega, by show (0 : Int) ≤ 1; omega, by simp [pv]⟩, ?_⟩
  rintro ⟨c, x, out⟩ ⟨i, hx, hi, hlen, hw, hc0, hc1, hpv⟩
  simp only at hx hi hlen hw hc0 hc1 hpv
  subst hx
  have hxl := ha i
  have hxm := hb i
  refine condT (fun hlt => ?_) (fun hge => ?_)
  · refine ref01_word_s ha (ref01_word_s hb (letIn ⟨app_ok (by omega), by unfold rng; omega, ?_, by dsimp only; omega⟩))
    rw [wrap_u64_id (m := a.getD i 0 + b.getD i 0) (by omega) (by omega), wrap_u64_id (by omega) (by omega), wrap_u32]
    have e32 : ∀ z : Int, z / 2 ^ Int.toNat 32 = z / 4294967296 := fun _ => rfl
    rw [e32]
    generalize hd : a.getD i 0 + b.getD i 0 + c = d
    refine ⟨i + 1, rfl, by omega, by simp [hlen], hw.append (Words.one (by omega) (by omega)), by show 0 ≤ d / 4294967296; omega, by show d / 4294967296 ≤ 1; omega, ?_⟩
    show pv (out ++ [d % 4294967296]) (i + 1) + d / 4294967296 * _ = _
    rw [pv_snoc hlen, Int.pow_succ, pv, pv, Int.add_assoc, split_w, ← hd, Int.add_mul, Int.add_mul]
    omega
  · obtain rfl : i = n := by omega
    refine ref01_Trim_s hw (by unfold SM; omega) ?_
    have e : val out = val a + val b := by
      have a1 := val_pv' hw (i := i) (by omega)
      have a2 := val_pv' ha (i := i) (by omega)
      have a3 := val_pv' hb (i := i) (by omega)
      have b2 := pv_ge (l := a) (i - 1) (by omega)
      have b3 := pv_ge (l := b) (i - 1) (by omega)
      have b4 := pv_ge (l := a) i (by omega)
      have b5 := pv_ge (l := b) i (by omega)
      have c2 := (pv_bound ha (i - 1)).2
      have c3 := (pv_bound hb (i - 1)).2
      have c4 := (pv_bound hw i).1
      have hi1 : i = i - 1 + 1 := by omega
      have hc := hpv
      rw [hi1, Int.pow_succ, ← hi1] at hc
      have := carry_zero hc (by omega) (by omega) (by omega) hc0 hc1 (pow_pos_w _)
      subst this
      omega
    rw [e]
    exact h
theorem ref01_Sub_s {a b : List Int} {Q : List Int → Int → Prop} (ha : Words a) (hb : Words b) (la : SM a) (lb : SM b) (h1 : val a < val b → Q [] 3) (h2 : val b ≤ val a → Q (lim (val a - val b)) 0) : ref01_Sub_W a b Q := by
  refine ref01_Cmp_s ha hb la lb (condT (fun hc => h1 (cmpv_lt.1 hc)) (fun hc => ?_))
  have hge : val b ≤ val a := by have := mt cmpv_lt.2 hc; omega
  have h := h2 hge
  clear h1 h2
  unfold SM at la lb
  refine ⟨fun y => ∃ i : Nat, y.2.1 = i ∧ i ≤ a.length ∧ y.2.2.length = i ∧ Words y.2.2 ∧ 0 ≤ y.1 ∧ y.1 ≤ 1 ∧ pv y.2.2 i = pv a i - pv b i + y.1 * 4294967296 ^ i, fun y => a.length - y.2.1.toNat, ⟨0, rfl, by omega, rfl, Words.nil, by show (0 : Int) ≤ 0; omega, by show (0 : Int) ≤ 1; omega, by simp [pv]⟩, ?_⟩
  rintro ⟨c, x, out⟩ ⟨i, hx, hi, hlen, hw, hb0, hb1, hpv⟩
  simp only at hx hi hlen hw hb0 hb1 hpv
  subst hx
  have hxl := ha i
  have hxm := hb i
  obtain ⟨q1, q2, q3⟩ := sub_step (a.getD i 0) (b.getD i 0) c hxl hxm ⟨hb0, hb1⟩
  refine condT (fun hlt => ref01_word_s ha (ref01_word_s hb (letIn ⟨app_ok (by omega), by unfold rng; omega, ?_, by dsimp only; omega⟩))) (fun hge => ?_)
  · simp only [wrap_u32]
    generalize IntKind.u64.wrap (IntKind.u64.wrap (a.getD i 0 - b.getD i 0) - c) = d at *
    have e63 : d / 2 ^ Int.toNat 63 = d / 9223372036854775808 := rfl
    refine ⟨i + 1, rfl, by omega, by simp [hlen], hw.append (Words.one (by omega) (by omega)), by simpa only [e63] using q2, by simpa only [e63] using q3, ?_⟩
    simp only [e63]
    rw [pv_snoc hlen, Int.pow_succ, pv, pv, hpv]
    have e : d % 4294967296 = a.getD i 0 - b.getD i 0 - c + 4294967296 * (d / 9223372036854775808) := by omega
    rw [e]
    generalize d / 9223372036854775808 = d'
    have a1 := Int.add_mul (a.getD i 0 - b.getD i 0 - c) (4294967296 * d') (4294967296 ^ i)
    have a2 := Int.sub_mul (a.getD i 0 - b.getD i 0) c (4294967296 ^ i)
    have a3 := Int.sub_mul (a.getD i 0) (b.getD i 0) (4294967296 ^ i)
    have a4 : 4294967296 * d' * 4294967296 ^ i = d' * (4294967296 ^ i * 4294967296) := by rw [Int.mul_comm 4294967296 d', Int.mul_assoc, Int.mul_comm 4294967296]
    omega
  · obtain rfl : i = a.length := by omega
    refine ref01_Trim_s hw (by unfold SM; omega) ?_
    have e : val out = val a - val b := by
      have a1 := val_pv' hw (i := a.length) (by omega)
      have a2 := val_pv ha
      have a3 := pv_bound ha a.length
      have a4 := pv_bound hw a.length
      have a5 := pv_bound hb a.length
      have a6 := val_pv hb
      rcases Nat.lt_or_ge a.length b.length with h | h
      · have hm1 := pv_ge_low hb (Nat.le_of_lt h)
        rcases (by omega : c = 0 ∨ c = 1) with rfl | rfl
        · have hz : pv b b.length = pv b a.length := by
            refine pv_high hb (Nat.le_of_lt h) ?_
            omega
          omega
        · omega
      · have hm1 := val_pv' hb h
        rcases (by omega : c = 0 ∨ c = 1) with rfl | rfl <;> omega
    rw [e]
    exact h
theorem no_carry {X C A1 B1 P1 P2 : Int} (f1 : 0 ≤ X) (f2 : 1 * (P1 * P2) ≤ C * (P1 * P2)) (h : X + C * (P1 * P2) = A1 * B1) (a0 : 0 ≤ A1) (a1 : A1 < P1) (_b0 : 0 ≤ B1) (b1 : B1 < P2) (_p1 : 0 < P1) (p2 : 0 < P2) : False := by
  have h1 : A1 * B1 ≤ A1 * P2 := Int.mul_le_mul_of_nonneg_left (by omega) a0
  have h2 : A1 * P2 < P1 * P2 := Int.mul_lt_mul_of_pos_right a1 p2
  omega
set_option maxHeartbeats 1000000 in
theorem ref01_Mul_s {a b : List Int} {Q : List Int → Prop} (ha : Words a) (hb : Words b) (la : a.length + b.length ≤ 1099511627775) (h : Q (lim (val a * val b))) : ref01_Mul_W a b Q := by
  obtain ⟨N, hN⟩ : ∃ N, N = a.length + b.length + 1 := ⟨_, rfl⟩
  have hNi : (a.length : Int) + (b.length : Int) + 1 = (N : Int) := by omega
  have hL : (b.length : Int) + 1 = ((b.length + 1 : Nat) : Int) := by omega
  unfold ref01_Mul_W
  rw [hNi, hL]
  refine ⟨by unfold rng; omega, by unfold rng; omega, mk_ok (by omega) (by omega), ?_⟩
  refine ⟨fun y => ∃ i : Nat, y.1 = i ∧ i ≤ a.length ∧ y.2.length = N ∧ Words y.2 ∧ pv y.2 (i + b.length) = pv a i * pv b b.length ∧ (∀ p, i + b.length ≤ p → y.2.getD p 0 = 0), fun y => a.length - y.1.toNat,
    ⟨0, rfl, by omega, by simp [rep'], Words.rep _, by rw [rep_nat, pv_rep]; simp [pv], fun p hp => by rw [rep_nat, List.getD_eq_getElem?_getD, List.getElem?_replicate]; split <;> rfl⟩, ?_⟩
  rintro ⟨x, out⟩ ⟨i, hx, hi, hlen, hw, hpv, hz⟩
  simp only at hx hi hlen hw hz hpv
  subst hx
  have hxi := ha i
  refine condT (fun hlt => ⟨⟨by omega, hlt⟩, by unfold rng; omega, ?_⟩) (fun hge => ?_)
  · have hbl : pv b (b.length + 1) = pv b b.length := pv_ge _ (by omega)
    refine ⟨fun y => ∃ k : Nat, y.2.1 = k ∧ k ≤ b.length + 1 ∧ y.2.2.length = N ∧ Words y.2.2 ∧ (∀ p, i + (b.length + 1) ≤ p → y.2.2.getD p 0 = 0) ∧ 0 ≤ y.1 ∧ y.1 < 4294967296 ∧ (k = b.length + 1 → y.1 = 0) ∧
        pv y.2.2 N + y.1 * 4294967296 ^ (i + k) = pv a i * pv b b.length + a.getD i 0 * 4294967296 ^ i * pv b k, fun y => b.length + 1 - y.2.1.toNat,
      ⟨0, rfl, by omega, hlen, hw, fun p hp => hz p (by omega), by show (0 : Int) ≤ 0; omega, by show (0 : Int) < _; omega, by omega, ?_⟩, ?_⟩
    · show pv out N + 0 * _ = _
      rw [pv_zero (j := i + b.length) N (by omega) (fun k h1 h2 => hz k h1), hpv]; simp [pv]
    clear hpv hz hw hlen h
    rintro ⟨c, x1, out2⟩ ⟨k, hx, hk, hlen, hw, hz, hc0, hc1, hck, hpv⟩
    simp only at hx hk hlen hw hz hc0 hc1 hck hpv
    subst hx
    have hy := hb k
    have ho := hw (i + k)
    obtain ⟨q1, q2⟩ := mul_le_w hxi hy
    have eik : (i : Int) + (k : Int) = ((i + k : Nat) : Int) := by omega
    refine condT (fun hlt2 => ⟨b.getD k 0, ref01_word_s hb rfl, by unfold rng; omega, ⟨by omega, by omega⟩, by unfold rng; omega, ⟨by omega, by omega⟩, letIn ⟨by unfold rng; omega, ?_, by dsimp only; omega⟩⟩) (fun hge2 => ⟨by unfold rng; omega, ?_, by dsimp only; omega⟩)
    · simp only [eik, at_nat, set_nat]
      simp (disch := omega) only [wrap_u64_id, wrap_u32]
      have e32 : ∀ z : Int, z / 2 ^ Int.toNat 32 = z / 4294967296 := fun _ => rfl
      simp only [e32]
      generalize hv : a.getD i 0 * b.getD k 0 + out2.getD (i + k) 0 + c = v
      have hnew : pv (out2.set (i + k) (v % 4294967296)) N + v / 4294967296 * 4294967296 ^ (i + (k + 1)) = pv a i * pv b b.length + a.getD i 0 * 4294967296 ^ i * pv b (k + 1) := by
        rw [pv_set_full (by omega) N (by omega), pv, ← Nat.add_assoc, Int.pow_succ, Int.mul_add, ← Int.add_assoc, ← hpv]
        have s1 := split_w v (4294967296 ^ (i + k))
        have s2 := Int.sub_mul (v % 4294967296) (out2.getD (i + k) 0) (4294967296 ^ (i + k))
        have s3 : v * 4294967296 ^ (i + k) = a.getD i 0 * 4294967296 ^ i * (b.getD k 0 * 4294967296 ^ k) + out2.getD (i + k) 0 * 4294967296 ^ (i + k) + c * 4294967296 ^ (i + k) := by
          rw [← hv, Int.add_mul, Int.add_mul, Int.pow_add]
          congr 2
          rw [Int.mul_assoc, Int.mul_assoc, Int.mul_left_comm (b.getD k 0)]
        omega
      refine ⟨k + 1, rfl, by omega, by simp [hlen], hw.set _ (by omega) (by omega), fun p hp => ?_, by show 0 ≤ v / 4294967296; omega, by show v / 4294967296 < 4294967296; omega, fun hkb => ?_, hnew⟩
      · show (out2.set (i + k) _).getD p 0 = 0
        rw [getD_set_of_ne (by omega)]; exact hz p hp
      · show v / 4294967296 = 0
        have : k = b.length := by omega
        have hy0 : b.getD k 0 = 0 := getD_ge (by omega)
        have ho0 : out2.getD (i + k) 0 = 0 ∨ True := .inr trivial
        rw [hy0, Int.mul_zero] at hv
        -- what is there already and the carry: less than two words, bounded by the sum
        rcases Int.lt_or_le v 4294967296 with h1 | h1
        · omega
        · exfalso
          have f1 := (pv_bound (hw.set (i + k) (x := v % 4294967296) (by omega) (by omega)) N).1
          have f2 : 1 * (4294967296 : Int) ^ (i + (k + 1)) ≤ v / 4294967296 * 4294967296 ^ (i + (k + 1)) := Int.mul_le_mul_of_nonneg_right (by omega) (by have := pow_pos_w (i + (k + 1)); omega)
          have f3 := (pv_bound ha (i + 1)).2
          have f4 := pv_bound hb b.length
          have f5 : pv a i * pv b b.length + a.getD i 0 * 4294967296 ^ i * pv b (k + 1) = pv a (i + 1) * pv b b.length := by
            have : pv b (k + 1) = pv b b.length := pv_ge _ (by omega)
            rw [this, pv, Int.add_mul]
          have f7 : (4294967296 : Int) ^ (i + (k + 1)) = 4294967296 ^ (i + 1) * 4294967296 ^ b.length := by rw [← Int.pow_add]; congr 1; omega
          have f9 := pow_pos_w (i + 1)
          have f10 := pow_pos_w b.length
          rw [f5, f7] at hnew
          rw [f7] at f2
          have f0 := (pv_bound ha (i + 1)).1
          generalize (4294967296 : Int) ^ (i + 1) = P1 at *
          generalize (4294967296 : Int) ^ b.length = P2 at *
          generalize pv a (i + 1) = A1 at *
          generalize pv b b.length = B1 at *
          exact no_carry f1 f2 hnew f0 f3 f4.1 f4.2 f9 f10
    · obtain rfl : k = b.length + 1 := by omega
      have := hck rfl
      subst this
      refine ⟨i + 1, rfl, by omega, hlen, hw, ?_, fun p hp => hz p (by omega)⟩
      show pv out2 (i + 1 + b.length) = pv a (i + 1) * pv b b.length
      rw [← pv_zero (j := i + 1 + b.length) N (by omega) (fun k h1 h2 => hz k (by omega)), pv, Int.add_mul]
      rw [hbl] at hpv
      omega
  · obtain rfl : i = a.length := by omega
    refine ref01_Trim_s hw (by unfold SM; omega) ?_
    have e : val out = val a * val b := by
      have a1 := val_pv' hw (i := N) (by omega)
      rw [pv_zero (j := a.length + b.length) N (by omega) (fun k h1 h2 => hz k h1), hpv] at a1
      have a2 := val_pv ha
      have a3 := val_pv hb
      have : ((val a * val b : Nat) : Int) = (val a : Int) * (val b : Int) := by simp
      have : (val out : Int) = ((val a * val b : Nat) : Int) := by rw [this, a1, a2, a3]
      omega
    rw [e]
    exact h
end Go.Gg
namespace Go.Gg

theorem ref01_up_s {a : List Int} {n : Nat} {Q : List Int → Prop} (ha : Words a) (la : a.length ≤ 1099511627775) (hn : n ≤ 32) (h : Q (lim (val a * 2 ^ n))) : ref01_up_W a (n : Int) Q := by
  have hpp := pow2_pos n
  have hs := two_split hn
  have hqp := pow2_pos (32 - n)
  have hple : (2 : Int) ^ n ≤ 4294967296 := by
    have : (2 : Int) ^ n * 1 ≤ 2 ^ n * 2 ^ (32 - n) := Int.mul_le_mul_of_nonneg_left (by omega) (by omega)
    omega
  refine ⟨fun y => ∃ i : Nat, y.2.1 = i ∧ i ≤ a.length ∧ y.2.2.length = i ∧ Words y.2.2 ∧ 0 ≤ y.1 ∧ y.1 < 2 ^ n ∧ pv y.2.2 i + y.1 * 4294967296 ^ i = pv a i * 2 ^ n, fun y => a.length - y.2.1.toNat, ⟨0, rfl, by omega, rfl, Words.nil, by show (0 : Int) ≤ 0; omega, hpp, by simp [pv]⟩, ?_⟩
  rintro ⟨c, x, out⟩ ⟨i, hx, hi, hlen, hw, hc0, hc1, hpv⟩
  simp only at hx hi hlen hw hc0 hc1 hpv
  subst hx
  have hxi := ha i
  refine condT (fun hlt => ⟨⟨by omega, hlt⟩, ⟨by omega, by omega⟩, ?_⟩) (fun hge => ?_)
  · rw [at_nat, Int.toNat_natCast]
    have hy0 : 0 ≤ a.getD i 0 * 2 ^ n := Int.mul_nonneg hxi.1 (by omega)
    have hy1 : a.getD i 0 * 2 ^ n ≤ 4294967295 * 2 ^ n := Int.mul_le_mul_of_nonneg_right (by omega) (by omega)
    have hmod : a.getD i 0 * 2 ^ n % 2 ^ n = 0 := Int.mul_emod_left _ _
    have hor : bits .or .u64 c (a.getD i 0 * 2 ^ n) = a.getD i 0 * 2 ^ n + c := or_u64' n hc0 hc1 hy0 hmod (by omega)
    rw [wrap_u64_id hxi.1 (by omega), wrap_u64_id hy0 (by omega), hor]
    refine letIn ⟨app_ok (by omega), by unfold rng; omega, ?_, by dsimp only; omega⟩
    have e32 : ∀ z : Int, z / 2 ^ Int.toNat 32 = z / 4294967296 := fun _ => rfl
    rw [e32, wrap_u32]
    generalize hd : a.getD i 0 * 2 ^ n + c = d
    refine ⟨i + 1, rfl, by omega, by simp [hlen], hw.append (Words.one (by omega) (by omega)), by show 0 ≤ d / 4294967296; omega, ?_, ?_⟩
    · show d / 4294967296 < 2 ^ n
      rw [Int.ediv_lt_iff_lt_mul (by omega)]; omega
    · show pv (out ++ [d % 4294967296]) (i + 1) + d / 4294967296 * _ = _
      rw [pv_snoc hlen, Int.pow_succ, Int.add_assoc, split_w, ← hd, pv, Int.add_mul, Int.add_mul, ← hpv, Int.mul_right_comm]
      omega
  · obtain rfl : i = a.length := by omega
    rw [wrap_u32]
    have hcm : c % 4294967296 = c := by omega
    rw [hcm]
    refine ⟨app_ok (by omega), ref01_Trim_s (hw.append (Words.one hc0 (by omega))) (by simp [SM]; omega) ?_⟩
    have e : val (out ++ [c]) = val a * 2 ^ n := by
      have a1 := val_pv' (hw.append (Words.one hc0 (by omega : c < 4294967296))) (i := a.length + 1) (by simp; omega)
      rw [pv_snoc hlen, hpv, ← val_pv ha] at a1
      have : ((val a * 2 ^ n : Nat) : Int) = (val a : Int) * 2 ^ n := by simp
      omega
    rw [e]; exact h

theorem ref01_down_s {a : List Int} {n : Nat} {Q : List Int → Prop} (ha : Words a) (la : SM a) (hn : n ≤ 32) (h : Q (lim (val a / 2 ^ n))) : ref01_down_W a (n : Int) Q := by
  unfold SM at la
  have hs := two_split hn
  have hpp := pow2_pos n
  have hqp := pow2_pos (32 - n)
  unfold ref01_down_W
  generalize hp : (2 : Int) ^ n = p at *
  generalize (2 : Int) ^ (32 - n) = q at *
  refine ⟨fun y => ∃ i : Nat, y.1 = i ∧ i ≤ a.length ∧ y.2.length = i ∧ Words y.2 ∧ pv y.2 i * p = pv a i - a.getD 0 0 % p + (a.getD i 0 % p) * 4294967296 ^ i, fun y => a.length - y.1.toNat,
    ⟨0, rfl, by omega, rfl, Words.nil, by simp [pv]; omega⟩, ?_⟩
  rintro ⟨x, out⟩ ⟨i, hx, hi, hlen, hw, hpv⟩
  simp only at hx hi hlen hw hpv
  subst hx
  have h0 := ha i
  have h1 := ha (i + 1)
  have e1 : (i : Int) + 1 = ((i + 1 : Nat) : Int) := by omega
  refine condT (fun hlt => ref01_word_s ha ⟨by unfold rng; omega, ?_⟩) (fun hge => ?_)
  · rw [e1]
    refine ref01_word_s ha ⟨⟨by omega, by omega⟩, app_ok (by omega), by unfold rng; omega, ?_, by dsimp only; omega⟩
    have e32 : (2 : Int) ^ Int.toNat 32 = 4294967296 := rfl
    rw [e32, Int.toNat_natCast, hp, wrap_u64_id (by omega) (by omega), or_u64' 32 h0.1 h0.2 (by omega) (by show _ % 4294967296 = 0; omega) (by omega), wrap_u32]
    generalize ha0 : a.getD i 0 = x0 at *
    generalize ha1 : a.getD (i + 1) 0 = x1 at *
    have hx0 : 0 ≤ x0 / p := Int.ediv_nonneg h0.1 (by omega)
    have hx0' : x0 / p < q := by rw [Int.ediv_lt_iff_lt_mul hpp, Int.mul_comm, hs]; exact h0.2
    have hm0 : 0 ≤ x1 % p := Int.emod_nonneg _ (by omega)
    have hm1 : x1 % p < p := Int.emod_lt_of_pos _ hpp
    have hdv : (x1 * 4294967296 + x0) / p = x1 * q + x0 / p := by
      rw [← hs, Int.mul_left_comm, Int.add_comm, Int.add_mul_ediv_left _ _ (by omega), Int.add_comm]
    have hk : (x1 * 4294967296 + x0) / p % 4294967296 = (x1 % p) * q + x0 / p := by
      have d1 : x1 = p * (x1 / p) + x1 % p := (Int.mul_ediv_add_emod x1 p).symm
      have d2 : x1 * q + x0 / p = (x1 % p) * q + x0 / p + 4294967296 * (x1 / p) := by
        have : x1 * q = (p * (x1 / p) + x1 % p) * q := by rw [← d1]
        rw [this, Int.add_mul, Int.mul_right_comm, hs]; omega
      rw [hdv, d2, Int.add_mul_emod_self_left]
      refine Int.emod_eq_of_lt ?_ ?_
      · have := Int.mul_nonneg hm0 (Int.le_of_lt hqp); omega
      · have : (x1 % p) * q ≤ (p - 1) * q := Int.mul_le_mul_of_nonneg_right (by omega) (by omega)
        rw [Int.sub_mul, hs] at this; omega
    rw [hk]
    have hq0 := Int.mul_nonneg hm0 (Int.le_of_lt hqp)
    have hq1 : (x1 % p) * q ≤ (p - 1) * q := Int.mul_le_mul_of_nonneg_right (by omega) (by omega)
    rw [Int.sub_mul, hs] at hq1
    refine ⟨i + 1, rfl, by omega, by simp [hlen], hw.append (Words.one (by omega) (by omega)), ?_⟩
    show pv (out ++ [x1 % p * q + x0 / p]) (i + 1) * p = pv a (i + 1) - _ + _
    rw [pv_snoc hlen, pv, Int.add_mul, hpv, ha0, ha1, Int.pow_succ]
    have d0 : x0 = p * (x0 / p) + x0 % p := (Int.mul_ediv_add_emod x0 p).symm
    have s1 : (x1 % p * q + x0 / p) * 4294967296 ^ i * p = x1 % p * (4294967296 ^ i * 4294967296) + (p * (x0 / p)) * 4294967296 ^ i := by
      rw [Int.add_mul, Int.add_mul]
      congr 1
      · rw [← hs, Int.mul_assoc, Int.mul_assoc, Int.mul_left_comm q, Int.mul_comm q p]
      · rw [Int.mul_right_comm, Int.mul_comm (x0 / p)]
    have s2 : x0 * 4294967296 ^ i = (p * (x0 / p)) * 4294967296 ^ i + x0 % p * 4294967296 ^ i := by
      rw [← Int.add_mul, ← d0]
    omega
  · obtain rfl : i = a.length := by omega
    refine ref01_Trim_s hw (by unfold SM; omega) ?_
    have a1 := val_pv hw
    have a2 := val_pv ha
    rw [hlen] at a1
    rw [getD_ge (Nat.le_refl a.length), Int.zero_emod, Int.zero_mul, ← a2, ← a1] at hpv
    have hr0 : 0 ≤ a.getD 0 0 % p := Int.emod_nonneg _ (by omega)
    have hr1 : a.getD 0 0 % p < p := Int.emod_lt_of_pos _ hpp
    have e : (val a : Int) / p = val out := by
      have : (val a : Int) = p * val out + a.getD 0 0 % p := by rw [Int.mul_comm]; omega
      rw [this, Int.add_comm, Int.add_mul_ediv_left _ _ (by omega), Int.ediv_eq_zero_of_lt hr0 hr1]; omega
    have e2 : ((val a / 2 ^ n : Nat) : Int) = (val a : Int) / p := by rw [← hp]; simp
    have : val out = val a / 2 ^ n := by omega
    rw [this]; exact h

theorem and_one {y : Int} (h0 : 0 ≤ y) (h1 : y < 4294967296) : bits .and .u32 y 1 = y % 2 := by
  obtain ⟨m, rfl⟩ := Int.eq_ofNat_of_zero_le h0
  show IntKind.u32.wrap (((BitVec.ofInt 32 (m : Int)) &&& (BitVec.ofInt 32 1)).toNat : Int) = _
  rw [wrap_u32, BitVec.toNat_and, BitVec.toNat_ofInt, BitVec.toNat_ofInt]
  have e1 : ((m : Int) % ((2 ^ 32 : Nat) : Int)).toNat = m := by omega
  have e2 : ((1 : Int) % ((2 ^ 32 : Nat) : Int)).toNat = 1 := by omega
  rw [e1, e2, Nat.and_one_is_mod]
  omega
theorem and_two_pow' (m i : Nat) : m &&& 2 ^ i = if m.testBit i then 2 ^ i else 0 := by
  refine Nat.eq_of_testBit_eq (fun j => ?_)
  rw [Nat.testBit_and, Nat.testBit_two_pow]
  by_cases h : i = j
  · subst h
    cases hb : m.testBit i <;> simp
  · split <;> simp [h]
theorem and_top {y : Int} (h0 : 0 ≤ y) (h1 : y < 4294967296) : bits .and .u32 y 2147483648 = if y < 2147483648 then 0 else 2147483648 := by
  obtain ⟨m, rfl⟩ := Int.eq_ofNat_of_zero_le h0
  show IntKind.u32.wrap (((BitVec.ofInt 32 (m : Int)) &&& (BitVec.ofInt 32 2147483648)).toNat : Int) = _
  rw [wrap_u32, BitVec.toNat_and, BitVec.toNat_ofInt, BitVec.toNat_ofInt]
  have e1 : ((m : Int) % ((2 ^ 32 : Nat) : Int)).toNat = m := by omega
  have e2 : ((2147483648 : Int) % ((2 ^ 32 : Nat) : Int)).toNat = 2 ^ 31 := by decide
  rw [e1, e2, and_two_pow']
  have : m.testBit 31 = decide (2147483648 ≤ m) := by
    rw [Nat.testBit_eq_decide_div_mod_eq]
    have e : m / 2 ^ 31 = m / 2147483648 := rfl
    rw [e]
    by_cases hm : 2147483648 ≤ m
    · have : m / 2147483648 = 1 := by omega
      rw [this]; simp [hm]
    · have : m / 2147483648 = 0 := by omega
      rw [this]; simp [hm]
  rw [this]
  by_cases hm : 2147483648 ≤ m
  · have h2 : ¬ ((m : Int) < 2147483648) := by omega
    simp only [hm, decide_true, if_true]
    show _ = if (m : Int) < 2147483648 then _ else _
    rw [if_neg h2]; rfl
  · have h2 : (m : Int) < 2147483648 := by omega
    simp only [hm, decide_false, Bool.false_eq_true, if_false]
    show _ = if (m : Int) < 2147483648 then _ else _
    rw [if_pos h2]; rfl

theorem blen_add {x p : Nat} (h : x < 2 ^ p) : blen (x + 2 ^ p) = p + 1 := by
  refine blen_uniq ?_ (fun _ => ?_)
  · rw [Nat.pow_succ]; omega
  · rw [Nat.add_sub_cancel]; omega
theorem ref01_Bits_s {a : List Int} {Q : Int → Prop} (ha : Words a) (la : SM a) (h : Q (blen (val a))) : ref01_Bits_W a Q := by
  unfold SM at la
  refine ⟨fun y => ∃ i : Nat, y.2 = i ∧ i ≤ a.length ∧ y.1 = ((blen (pv a i).toNat : Nat) : Int), fun y => a.length - y.2.toNat, ⟨0, rfl, by omega, rfl⟩, ?_⟩
  rintro ⟨n, x⟩ ⟨i, hx, hi, hn⟩
  simp only at hx hi hn
  subst hx hn
  have hxi := ha i
  obtain ⟨w, hw⟩ : ∃ w : Nat, a.getD i 0 = w := ⟨(a.getD i 0).toNat, by omega⟩
  obtain ⟨b1, b2⟩ := pv_bound ha i
  obtain ⟨A, hA⟩ : ∃ A : Nat, pv a i = A := ⟨(pv a i).toNat, by omega⟩
  have hW : (4294967296 : Int) ^ i = ((2 ^ (32 * i) : Nat) : Int) := by rw [Nat.pow_mul]; simp
  refine condT (fun hlt => ⟨⟨by omega, hlt⟩, ?_⟩) (fun hge => ?_)
  · refine ⟨fun y => ∃ k : Nat, y.2 = k ∧ k ≤ 32 ∧ y.1 = ((blen (A + w % 2 ^ k * 2 ^ (32 * i)) : Nat) : Int), fun y => 32 - y.2.toNat, ⟨0, rfl, by omega, ?_⟩, ?_⟩
    · show ((blen (pv a i).toNat : Nat) : Int) = _
      rw [hA]; simp [Nat.mod_one]
    rintro ⟨n, x⟩ ⟨k, hx, hk, hn⟩
    simp only at hx hk hn
    subst hx hn
    refine condT (fun hk2 => ⟨⟨by omega, by omega⟩, ?_⟩) (fun hk2 => ⟨by unfold rng; omega, ⟨i + 1, rfl, by omega, ?_⟩, by dsimp only; omega⟩)
    · have hpk : 0 < 2 ^ k := Nat.pow_pos (by omega)
      have ed : a.getD i 0 / 2 ^ k = ((w / 2 ^ k : Nat) : Int) := by rw [hw]; simp
      have hdle : w / 2 ^ k ≤ w := Nat.div_le_self _ _
      have hsucc : w % 2 ^ (k + 1) = w % 2 ^ k + 2 ^ k * (w / 2 ^ k % 2) := Nat.mod_pow_succ
      generalize w / 2 ^ k = z at *
      rw [at_nat, Int.toNat_natCast, ed, and_one (by omega) (by omega)]
      refine condE (fun he => ⟨by unfold rng; omega, by unfold rng; omega, by unfold rng; omega, by unfold rng; omega, ⟨k + 1, rfl, by omega, ?_⟩, by dsimp only; omega⟩) (fun he => ⟨by unfold rng; omega, ⟨k + 1, rfl, by omega, ?_⟩, by dsimp only; omega⟩)
      · have h2 : z % 2 = 1 := by omega
        show 32 * (i : Int) + k + 1 = _
        rw [hsucc, h2, Nat.mul_one]
        have e : A + (w % 2 ^ k + 2 ^ k) * 2 ^ (32 * i) = (A + w % 2 ^ k * 2 ^ (32 * i)) + 2 ^ (32 * i + k) := by
          rw [Nat.add_mul, Nat.pow_add, Nat.mul_comm (2 ^ (32 * i)) (2 ^ k)]; omega
        have hlt2 : A + w % 2 ^ k * 2 ^ (32 * i) < 2 ^ (32 * i + k) := by
          have h3 : w % 2 ^ k < 2 ^ k := Nat.mod_lt _ hpk
          have h4 : (w % 2 ^ k + 1) * 2 ^ (32 * i) ≤ 2 ^ k * 2 ^ (32 * i) := Nat.mul_le_mul_right _ h3
          rw [Nat.pow_add, Nat.mul_comm (2 ^ (32 * i)) (2 ^ k)]
          rw [Nat.add_mul] at h4
          omega
        rw [e, blen_add hlt2]; omega
      · have h2 : z % 2 = 0 := by omega
        show ((blen (A + w % 2 ^ k * 2 ^ (32 * i)) : Nat) : Int) = _
        rw [hsucc, h2, Nat.mul_zero, Nat.add_zero]
    · obtain rfl : k = 32 := by omega
      show ((blen (A + w % 2 ^ 32 * 2 ^ (32 * i)) : Nat) : Int) = ((blen (pv a (i + 1)).toNat : Nat) : Int)
      have hm : w % 2 ^ 32 = w := Nat.mod_eq_of_lt (by omega)
      have : (pv a (i + 1)).toNat = A + w * 2 ^ (32 * i) := by
        have : pv a (i + 1) = ((A + w * 2 ^ (32 * i) : Nat) : Int) := by rw [pv, hA, hw, hW, Int.natCast_add, Int.natCast_mul]
        omega
      rw [hm, this]
  · obtain rfl : i = a.length := by omega
    exact h
end Go.Gg
namespace Go.Gg

theorem rng_s31 {s : Nat} (h : s ≤ 31) : rng ((s : Int) + 1) := by unfold rng; omega
theorem dec_s31 {s : Nat} (h : s ≤ 31) : 32 - ((s : Int) + 1).toNat < 32 - (s : Int).toNat := by omega
theorem cmpv_gt {m n : Nat} : 0 < cmpv m n ↔ n < m := by
  unfold cmpv
  by_cases h : m < n
  · simp only [h, if_true]; omega
  · rw [if_neg h]; split <;> omega
theorem val_words {R k : Nat} (h : R < 4294967296 ^ k) : (R : Int) = pv (lim R) k := by
  have h1 := lim_len_lt h
  have h2 := val_pv' (lim_words R) h1
  rw [val_lim] at h2
  exact h2
theorem lim_one {g : Nat} (h : g < 4294967296) : val [(g : Int)] = g := by
  rw [val_cons (Words.one (by omega) (by omega)), val_nil]; omega

set_option maxHeartbeats 2000000 in
theorem ref01_Div_s {a b : List Int} {Q : List Int → List Int → Int → Prop} (ha : Words a) (hb : Words b) (la : a.length ≤ 1099511627760) (lb : b.length ≤ 1099511627760)
    (h0 : val b = 0 → Q [] [] 8) (h : val b ≠ 0 → Q (lim (val a / val b)) (lim (val a % val b)) 0) : ref01_Div_W a b Q := by
  refine ref01_Trim_s hb (by unfold SM; omega) ?_
  have b2 := lim_len_le hb
  have w2 := lim_words (val b)
  have v2 := val_lim (val b)
  refine condE (fun hc => ?_) (fun hc => ?_)
  · have : (lim (val b)).length = 0 := by omega
    have : lim (val b) = [] := List.eq_nil_of_length_eq_zero this
    rw [this, val_nil] at v2
    exact h0 v2.symm
  have hB : val b ≠ 0 := by intro hh; rw [hh, lim_zero] at hc; exact hc rfl
  replace h := h hB
  clear h0
  obtain ⟨m, hm⟩ : ∃ m, (lim (val b)).length = m + 1 := ⟨(lim (val b)).length - 1, by omega⟩
  have htop := lim_top hB
  have hbd := val_pv w2
  rw [v2] at hbd
  generalize hA : val a = A at *
  generalize hBv : val b = B at *
  generalize hlb : lim B = bl at *
  rw [hm] at htop hbd
  rw [Nat.add_sub_cancel] at htop
  have hwt := w2 m
  have hml : (bl.length : Int) - 1 = (m : Int) := by omega
  obtain ⟨tp, htp⟩ : ∃ x : Nat, bl.getD m 0 = x := ⟨(bl.getD m 0).toNat, by omega⟩
  rw [htp] at htop hwt
  have htp0 : tp ≠ 0 := by omega
  have c1 := blen_lt (n := tp)
  have c2 := blen_le htp0
  have c3 := blen_le32 (x := tp) (by omega)
  have c4 : blen tp ≠ 0 := by unfold blen; rw [if_neg htp0]; omega
  have hPm := pow_pos_w m
  refine ⟨fun y => ∃ s : Nat, y = s ∧ s ≤ 32 - blen tp, fun y => 32 - y.toNat, ⟨0, rfl, by omega⟩, ?_⟩
  rintro _ ⟨s, rfl, hs⟩
  have hps := pow2_pos s
  have hsle : (2 : Int) ^ (blen tp) * 2 ^ s ≤ 4294967296 := by
    have e1 : (2 : Int) ^ (blen tp + s) * 2 ^ (32 - (blen tp + s)) = 4294967296 := pow2_split (c := 32) (by omega)
    rw [← Int.pow_add]
    have := pow2_pos (32 - (blen tp + s))
    have h3 := pow2_pos (blen tp + s)
    have : (2 : Int) ^ (blen tp + s) * 1 ≤ 2 ^ (blen tp + s) * 2 ^ (32 - (blen tp + s)) := Int.mul_le_mul_of_nonneg_left (by omega) (by omega)
    omega
  have f1 : (tp : Int) + 1 ≤ 2 ^ (blen tp) := by exact_mod_cast c1
  have g1 : ((tp : Int) + 1) * 2 ^ s ≤ 2 ^ (blen tp) * 2 ^ s := Int.mul_le_mul_of_nonneg_right f1 (by omega)
  have g1' : ((tp : Int) + 1) * 2 ^ s = tp * 2 ^ s + 2 ^ s := by rw [Int.add_mul]; omega
  have ht0 : 0 ≤ (tp : Int) * 2 ^ s := Int.mul_nonneg (by omega) (by omega)
  have hw32 : (tp : Int) * 2 ^ s % 4294967296 = tp * 2 ^ s := Int.emod_eq_of_lt ht0 (by omega)
  rw [hml, at_nat, htp, Int.toNat_natCast, wrap_u32, hw32, and_top ht0 (by omega)]
  have hs31 : s ≤ 31 := by omega
  have hr1 : rng ((s : Int) + 1) := rng_s31 hs31
  have hr2 : 32 - ((s : Int) + 1).toNat < 32 - ((s : Int)).toNat := dec_s31 hs31
  refine ⟨by unfold rng; omega, ⟨by omega, by omega⟩, ⟨by omega, by omega⟩, condE (fun he => ⟨hr1, ⟨s + 1, rfl, ?_⟩, hr2⟩) (fun he => ?_)⟩
  · -- the highest bit is not there yet
    have hlt : (tp : Int) * 2 ^ s < 2147483648 := by
      rcases Int.lt_or_le ((tp : Int) * 2 ^ s) 2147483648 with hh | hh
      · exact hh
      · rw [if_neg (by omega)] at he; cases he
    rcases Nat.lt_or_ge s (32 - blen tp) with hh | hh
    · omega
    · exfalso
      have hse : s = 32 - blen tp := by omega
      have e2 : (2 : Int) ^ (blen tp - 1) * 2 ^ s = 2147483648 := pow2_split (c := 31) (by omega)
      have f2 : (2 : Int) ^ (blen tp - 1) ≤ tp := by exact_mod_cast c2
      have g2 : (2 : Int) ^ (blen tp - 1) * 2 ^ s ≤ tp * 2 ^ s := Int.mul_le_mul_of_nonneg_right f2 (by omega)
      omega
  have hge31 : 2147483648 ≤ (tp : Int) * 2 ^ s := by
    rcases Int.lt_or_le ((tp : Int) * 2 ^ s) 2147483648 with hh | hh
    · rw [if_pos hh] at he; exact absurd rfl he
    · exact hh
  clear he
  refine ref01_up_s ha (by omega) (by omega) (ref01_up_s w2 (by omega) (by omega) ?_)
  rw [hA, v2]
  obtain ⟨A2, hA2⟩ : ∃ A2, A2 = A * 2 ^ s := ⟨_, rfl⟩
  obtain ⟨B2, hB2⟩ : ∃ B2, B2 = B * 2 ^ s := ⟨_, rfl⟩
  rw [← hA2, ← hB2]
  have hB2i : (B2 : Int) = (B : Int) * 2 ^ s := by rw [hB2]; simp
  have hbm := pv_bound w2 m
  have hbd2 : (B : Int) = pv bl m + tp * 4294967296 ^ m := by rw [hbd, pv, htp]
  have ew1 : (4294967296 : Int) ^ (m + 1) = 4294967296 ^ m * 4294967296 := Int.pow_succ ..
  have hB2lt : (B2 : Int) < 4294967296 ^ (m + 1) := by
    have k1 : (B : Int) + 1 ≤ (tp + 1) * 4294967296 ^ m := by rw [Int.add_mul]; omega
    have k2 : ((B : Int) + 1) * 2 ^ s ≤ ((tp + 1) * 4294967296 ^ m) * 2 ^ s := Int.mul_le_mul_of_nonneg_right k1 (by omega)
    have k4 : (((tp : Int) + 1) * 2 ^ s) * 4294967296 ^ m ≤ 4294967296 * 4294967296 ^ m := Int.mul_le_mul_of_nonneg_right (by omega) (by omega)
    rw [Int.mul_right_comm] at k2
    rw [Int.add_mul] at k2
    rw [hB2i, ew1]
    omega
  have hB2ge : 2147483648 * 4294967296 ^ m ≤ (B2 : Int) := by
    have k1 : (tp : Int) * 4294967296 ^ m ≤ B := by omega
    have k2 : (tp : Int) * 4294967296 ^ m * 2 ^ s ≤ B * 2 ^ s := Int.mul_le_mul_of_nonneg_right k1 (by omega)
    have k3 : 2147483648 * 4294967296 ^ m ≤ (tp : Int) * 2 ^ s * 4294967296 ^ m := Int.mul_le_mul_of_nonneg_right hge31 (by omega)
    rw [Int.mul_right_comm] at k2
    omega
  have hB20 : 0 < B2 := by omega
  have hB2N : B2 < 4294967296 ^ (m + 1) := by
    have : ((4294967296 ^ (m + 1) : Nat) : Int) = (4294967296 : Int) ^ (m + 1) := by simp
    omega
  have wA := lim_words A2
  have vA := val_lim A2
  have wB := lim_words B2
  have hlB : (lim B2).length ≤ m + 1 := lim_len_lt hB2N
  have hLA : (lim A2).length ≤ 1099511627762 := by
    have k1 : A < 4294967296 ^ a.length := by rw [← hA]; exact val_lt_pow ha
    have k2 : A * 2 ^ s < 4294967296 ^ (a.length + 1) := by
      rw [Nat.pow_succ]
      have k3 : 2 ^ s ≤ 2 ^ 32 := Nat.pow_le_pow_right (by omega) (by omega)
      exact Nat.mul_lt_mul_of_lt_of_le k1 k3 (by omega)
    rw [hA2]
    have := lim_len_lt k2
    omega
  have hBtop := val_words hB2N
  generalize hlA2 : lim A2 = al at *
  generalize hlB2 : lim B2 = bl2 at *
  obtain ⟨L, hL⟩ : ∃ L, al.length = L := ⟨_, rfl⟩
  have hApv : (A2 : Int) = pv al L := by rw [← vA, ← hL]; exact val_pv wA
  -- the first remainder
  obtain ⟨r0, hr0⟩ : ∃ r0, r0 = [] ++ sub' al (max 0 ((al.length : Int) - (bl.length : Int) + 1)) (al.length : Int) := ⟨_, rfl⟩
  obtain ⟨J, hJ⟩ : ∃ J, J = L - m := ⟨_, rfl⟩
  have hr0d : r0 = al.drop J := by
    rw [hr0]
    show [] ++ (al.drop _).take _ = _
    have e : (max 0 ((al.length : Int) - (bl.length : Int) + 1)).toNat = J := by omega
    rw [e, List.nil_append, Int.toNat_natCast]
    exact List.take_of_length_le (by simp)
  rw [← hr0]
  refine ⟨mk_ok (by omega) (by omega), by unfold rng; omega, by unfold rng; omega, ⟨by omega, by omega, by omega⟩, ?_, by unfold rng; omega, ?_⟩
  · rw [hr0d]; simp; omega
  have hr0w : Words r0 := by rw [hr0d]; exact wA.drop J
  have hr0l : r0.length = L - J := by rw [hr0d, List.length_drop, hL]
  have hsplit : (A2 : Int) = pv al J + val r0 * 4294967296 ^ J := by
    have k0 : L = J + (L - J) := by omega
    rw [hApv, k0, pv_split, val_pv hr0w, hr0l, hr0d]
  have hr0B : val r0 < B2 := by
    have k1 := val_lt_pow hr0w
    have k2 : 4294967296 ^ r0.length ≤ 4294967296 ^ m := Nat.pow_le_pow_right (by omega) (by omega)
    have k3 : ((4294967296 ^ m : Nat) : Int) = (4294967296 : Int) ^ m := by simp
    omega
  refine ⟨fun y => ∃ j : Nat, (y.2.1 = (j : Int) - 1 ∨ (j = 0 ∧ y.2.1 < 0)) ∧ j ≤ L ∧ Words y.1 ∧ y.1.length ≤ m + 1 ∧ val y.1 < B2 ∧ y.2.2.length = L ∧ Words y.2.2 ∧ (∀ k, k < j → y.2.2.getD k 0 = 0) ∧ (A2 : Int) = pv y.2.2 L * B2 + val y.1 * 4294967296 ^ j + pv al j,
    fun y => (y.2.1 + 1).toNat, ⟨J, ?_, by omega, hr0w, by show r0.length ≤ _; omega, hr0B, by simp [rep', hL], Words.rep _, fun k hk => ?_, ?_⟩, ?_⟩
  · show (al.length : Int) - (bl.length : Int) = (J : Int) - 1 ∨ J = 0 ∧ (al.length : Int) - (bl.length : Int) < 0
    rcases Nat.lt_or_ge L (m + 1) with hh | hh
    · right; omega
    · left; omega
  · show (List.replicate ((al.length : Int)).toNat (0 : Int)).getD k 0 = 0
    rw [List.getD_eq_getElem?_getD, List.getElem?_replicate]; split <;> rfl
  · show (A2 : Int) = pv (List.replicate ((al.length : Int)).toNat (0 : Int)) L * B2 + val r0 * 4294967296 ^ J + pv al J
    rw [pv_rep]; omega
  clear hsplit hr0B hr0w hr0l hr0 hr0d
  clear r0
  rintro ⟨r, x, q⟩ ⟨j, hx, hj, hrw, hrl, hrB, hql, hqw, hqz, hsum⟩
  simp only at hx hj hrw hrl hrB hql hqw hqz hsum
  refine condT (fun hc => ?_) (fun hc => ?_)
  · obtain ⟨i, rfl⟩ : ∃ i, j = i + 1 := ⟨j - 1, by omega⟩
    obtain rfl : x = (i : Int) := by omega
    have hai := wA i
    rw [at_nat]
    have hw1 : Words ([al.getD i 0] ++ r) := (Words.one hai.1 hai.2).append hrw
    refine ⟨⟨by omega, by omega⟩, by simp; omega, ref01_Trim_s hw1 (by simp [SM]; omega) ?_⟩
    obtain ⟨R, hRd⟩ : ∃ R, R = val ([al.getD i 0] ++ r) := ⟨_, rfl⟩
    rw [← hRd]
    have hRv : (R : Int) = al.getD i 0 + 4294967296 * val r := by
      rw [hRd]
      have : val ([al.getD i 0] ++ r) = (al.getD i 0).toNat + 4294967296 * val r := val_cons hw1
      rw [this]; omega
    have hRB : R < B2 * 4294967296 := by omega
    have hRn : R < 4294967296 ^ (m + 2) := by
      have k1 : B2 * 4294967296 < 4294967296 ^ (m + 1) * 4294967296 := Nat.mul_lt_mul_of_pos_right hB2N (by omega)
      have k2 : 4294967296 ^ (m + 2) = 4294967296 ^ (m + 1) * 4294967296 := Nat.pow_succ ..
      omega
    have hRp := val_words hRn
    have wR := lim_words R
    have hlR : (lim R).length ≤ m + 2 := lim_len_lt hRn
    have vR := val_lim R
    have hmb : (bl.length : Int) = ((m + 1 : Nat) : Int) := by omega
    rw [hmb]
    refine ref01_word_s wR ⟨by unfold rng; omega, ref01_word_s wR ⟨by unfold rng; omega, ref01_word_s wB ?_⟩⟩
    have h1 := wR (m + 1)
    have h2 := wR m
    have h3 := wB m
    have hBt : (B2 : Int) = pv bl2 m + bl2.getD m 0 * 4294967296 ^ m := by rw [hBtop, pv]
    have hb2m := pv_bound wB m
    have hr4 : 0 < bl2.getD m 0 := by
      rcases Int.lt_or_le 0 (bl2.getD m 0) with hh | hh
      · exact hh
      · have : bl2.getD m 0 = 0 := by omega
        rw [this] at hBt; omega
    have e32 : (2 : Int) ^ Int.toNat 32 = 4294967296 := rfl
    rw [e32, wrap_u64_id (m := (lim R).getD (m + 1) 0 * 4294967296) (by omega) (by omega), or_u64 32 h2.1 h2.2 (by omega) (by show _ % 4294967296 = 0; omega) (by omega)]
    generalize hhead : (lim R).getD (m + 1) 0 * 4294967296 + (lim R).getD m 0 = head
    have hhead0 : 0 ≤ head := by omega
    have hq0 : 0 ≤ head / bl2.getD m 0 := Int.ediv_nonneg hhead0 (by omega)
    have hq1 : head / bl2.getD m 0 ≤ head := Int.ediv_le_self _ hhead0
    rw [Int.tdiv_eq_ediv_of_nonneg hhead0, wrap_u64_id hq0 (by omega)]
    refine ⟨by omega, letIn ?_⟩
    obtain ⟨g0, hg0⟩ : ∃ g0 : Nat, min (head / bl2.getD m 0) 4294967295 = (g0 : Int) := ⟨(min (head / bl2.getD m 0) 4294967295).toNat, by omega⟩
    have hg0W : g0 < 4294967296 := by omega
    have hU : R < (g0 + 1) * B2 := by
      by_cases hcase : head / bl2.getD m 0 ≤ 4294967295
      · have hge : head / bl2.getD m 0 = g0 := by omega
        have k1 : head < ((g0 : Int) + 1) * bl2.getD m 0 := by
          have d1 : head = bl2.getD m 0 * (head / bl2.getD m 0) + head % bl2.getD m 0 := (Int.mul_ediv_add_emod head _).symm
          have d2 : head % bl2.getD m 0 < bl2.getD m 0 := Int.emod_lt_of_pos _ hr4
          rw [hge] at d1
          rw [Int.add_mul, Int.mul_comm]; omega
        have k2 : (head + 1) * 4294967296 ^ m ≤ (((g0 : Int) + 1) * bl2.getD m 0) * 4294967296 ^ m := Int.mul_le_mul_of_nonneg_right (by omega) (by omega)
        have k3 : (R : Int) = pv (lim R) m + head * 4294967296 ^ m := by
          rw [hRp, pv, pv, ew1, ← hhead, Int.add_mul, Int.mul_assoc ((lim R).getD (m + 1) 0), Int.mul_comm 4294967296]; omega
        have k4 := (pv_bound wR m).2
        have k5 : ((g0 : Int) + 1) * B2 = ((g0 : Int) + 1) * pv bl2 m + (((g0 : Int) + 1) * bl2.getD m 0) * 4294967296 ^ m := by rw [hBt, Int.mul_add, Int.mul_assoc]
        have k6 : 0 ≤ ((g0 : Int) + 1) * pv bl2 m := Int.mul_nonneg (by omega) hb2m.1
        have k7 : (((g0 + 1) * B2 : Nat) : Int) = ((g0 : Int) + 1) * B2 := by simp
        rw [Int.add_mul] at k2
        omega
      · have : g0 = 4294967295 := by omega
        subst this
        omega
    rw [hg0, wrap_u32]
    have hg0m : (g0 : Int) % 4294967296 = g0 := by omega
    rw [hg0m]
    refine ref01_Mul_s wB (Words.one (by omega) (by omega)) (by simp; omega) ?_
    have vB : val bl2 = B2 := by rw [← hlB2]; exact val_lim B2
    rw [lim_one hg0W, vB]
    refine ⟨fun y => ∃ g : Nat, y = ((g : Int), lim (B2 * g)) ∧ g < 4294967296 ∧ R < (g + 1) * B2, fun y => y.1.toNat, ⟨g0, rfl, hg0W, hU⟩, ?_⟩
    rintro _ ⟨g, rfl, hgW, hgU⟩
    have wP := lim_words (B2 * g)
    have vP := val_lim (B2 * g)
    have hPl : (lim (B2 * g)).length ≤ m + 2 := by
      refine lim_len_lt ?_
      rw [Nat.pow_succ]
      exact Nat.mul_lt_mul_of_lt_of_le hB2N (by omega) (by omega)
    refine ref01_Cmp_s wP wR (by unfold SM; omega) (by unfold SM; omega) ?_
    rw [vP, vR]
    refine condT (fun hgt => ?_) (fun hle => ?_)
    · have hgt' := cmpv_gt.1 hgt
      have hg1 : 1 ≤ g := by
        rcases Nat.eq_zero_or_pos g with hh | hh
        · subst hh; simp at hgt'
        · exact hh
      have hmul : B2 * (g - 1) = B2 * g - B2 := by rw [Nat.mul_sub, Nat.mul_one]
      have hBle : B2 ≤ B2 * g := Nat.le_mul_of_pos_right _ hg1
      refine ref01_Sub_s wP wB (by unfold SM; omega) (by unfold SM; omega) (fun hh => ?_) (fun _ => ?_)
      · rw [vP, vB] at hh; omega
      · rw [vP, vB, wrap_u64_id (m := (g : Int) - 1) (by omega) (by omega), ← hmul]
        refine ⟨⟨g - 1, ?_, by omega, ?_⟩, by dsimp only; omega⟩
        · have : (g : Int) - 1 = ((g - 1 : Nat) : Int) := by omega
          rw [this]
        · have : g - 1 + 1 = g := by omega
          rw [this, Nat.mul_comm]; exact hgt'
    · have hle' : B2 * g ≤ R := by
        rcases Nat.lt_or_ge R (B2 * g) with hh | hh
        · exact absurd (cmpv_gt.2 hh) hle
        · exact hh
      refine ref01_Sub_s wR wP (by unfold SM; omega) (by unfold SM; omega) (fun hh => ?_) (fun _ => ?_)
      · rw [vP, vR] at hh; omega
      · rw [vP, vR, wrap_u32, set_nat]
        have hgm : (g : Int) % 4294967296 = g := by omega
        rw [hgm]
        have hRlt : R - B2 * g < B2 := by rw [Nat.add_mul, Nat.mul_comm g] at hgU; omega
        have hqil : i < q.length := by omega
        refine ⟨⟨by omega, by omega⟩, by unfold rng; omega, ⟨i, .inl rfl, by omega, lim_words _, ?_, ?_, by simp [hql], hqw.set _ (by omega) (by omega), fun k hk => ?_, ?_⟩, by dsimp only; omega⟩
        · show (lim (R - B2 * g)).length ≤ m + 1
          exact lim_len_lt (by omega)
        · show val (lim (R - B2 * g)) < B2
          rw [val_lim]; exact hRlt
        · show (q.set i _).getD k 0 = 0
          rw [getD_set_of_ne (by omega)]; exact hqz k (by omega)
        · show (A2 : Int) = pv (q.set i (g : Int)) L * B2 + val (lim (R - B2 * g)) * 4294967296 ^ i + pv al i
          rw [val_lim, pv_set_full hqil L (by omega), hqz i (by omega), Int.sub_zero, hsum, Int.add_mul, pv, Int.pow_succ]
          have k1 : ((R - B2 * g : Nat) : Int) = (R : Int) - B2 * g := by rw [Int.natCast_sub hle']; simp
          have k2 : ((R : Int) - B2 * g) * 4294967296 ^ i = R * 4294967296 ^ i - g * 4294967296 ^ i * B2 := by
            generalize (4294967296 : Int) ^ i = z
            grind
          have k3 : (R : Int) * 4294967296 ^ i = al.getD i 0 * 4294967296 ^ i + val r * (4294967296 ^ i * 4294967296) := by
            rw [hRv, Int.add_mul, Int.mul_comm 4294967296 (val r : Int), Int.mul_assoc, Int.mul_comm 4294967296]
          rw [k1, k2, k3]
          omega
  · obtain rfl : j = 0 := by omega
    have hq1 := val_pv hqw
    rw [hql] at hq1
    simp only [pv, Int.pow_zero, Int.mul_one, Int.add_zero] at hsum
    rw [← hq1] at hsum
    have hsumN : A2 = val q * B2 + val r := by
      have : ((A2 : Nat) : Int) = ((val q * B2 + val r : Nat) : Int) := by rw [Int.natCast_add, Int.natCast_mul]; exact hsum
      omega
    have hps' : 0 < 2 ^ s := Nat.pow_pos (by omega)
    have hdiv : A / B = val q := by
      have k1 : A * 2 ^ s / (B * 2 ^ s) = A / B := Nat.mul_div_mul_right _ _ hps'
      rw [← k1, ← hA2, ← hB2, hsumN, Nat.add_comm, Nat.add_mul_div_right _ _ hB20, Nat.div_eq_of_lt hrB]; omega
    have hmod : A % B = val r / 2 ^ s := by
      have k1 : A * 2 ^ s % (B * 2 ^ s) = A % B * 2 ^ s := Nat.mul_mod_mul_right _ _ _
      rw [← hA2, ← hB2, hsumN, Nat.add_comm, Nat.add_mul_mod_self_right, Nat.mod_eq_of_lt hrB] at k1
      rw [k1, Nat.mul_div_cancel _ hps']
    refine ref01_Trim_s hqw (by unfold SM; omega) (ref01_down_s hrw (by unfold SM; omega) (by omega) ?_)
    rw [← hmod, ← hdiv]
    exact h

theorem ref01_Gcd_s {a b : List Int} {Q : List Int → Prop} (ha : Words a) (hb : Words b) (la : a.length ≤ 1099511627760) (lb : b.length ≤ 1099511627760) (h : Q (lim (Nat.gcd (val a) (val b)))) : ref01_Gcd_W a b Q := by
  refine ref01_Trim_s ha (by unfold SM; omega) (ref01_Trim_s hb (by unfold SM; omega) ?_)
  have b1 := lim_len_le ha
  have b2 := lim_len_le hb
  refine ⟨fun y => ∃ m n : Nat, y = (lim m, lim n) ∧ (lim m).length ≤ 1099511627760 ∧ (lim n).length ≤ 1099511627760 ∧ Nat.gcd m n = Nat.gcd (val a) (val b), fun y => val y.2, ⟨_, _, rfl, by omega, by omega, rfl⟩, ?_⟩
  rintro _ ⟨m, n, rfl, hm, hn, hg⟩
  refine condT (fun hc => ?_) (fun hc => ?_)
  · have hn0 : n ≠ 0 := by rintro rfl; rw [lim_zero] at hc; simp at hc
    refine ref01_Div_s (lim_words m) (lim_words n) hm hn (fun h0 => absurd (by rw [val_lim] at h0; exact h0) hn0) (fun _ => ?_)
    rw [val_lim, val_lim]
    have hlt := Nat.mod_lt m (Nat.pos_of_ne_zero hn0)
    refine ⟨⟨n, m % n, rfl, hn, Nat.le_trans (lim_len_mono (Nat.le_of_lt hlt)) hn, ?_⟩, ?_⟩
    · rw [← hg, Nat.gcd_comm n, ← Nat.gcd_rec, Nat.gcd_comm]
    · show val (lim (m % n)) < val (lim n)
      rw [val_lim, val_lim]; exact hlt
  · have hn0 : n = 0 := by
      rcases Nat.eq_zero_or_pos n with h0 | h0
      · exact h0
      · rw [lim_pos h0] at hc; simp at hc
    subst hn0
    rw [Nat.gcd_zero_right] at hg
    rw [← hg] at h
    exact h
end Go.Gg
namespace Go.Gg

/-- A loop that counts up to n. -/
theorem loopInv {σ : Type} {n : Nat} (J : Nat → σ → Prop) (ix : σ → Int) (c : Int) (hix : ∀ i y, J i y → ix y = i + c) {x0 : σ} {body : σ → (σ → Prop) → Prop} (h0 : J 0 x0)
    (hs : ∀ i y (next : σ → Prop), i < n → J i y → (∀ z, J (i + 1) z → next z) → body y next) (he : ∀ y (next : σ → Prop), J n y → body y next) : loopW x0 body := by
  refine ⟨fun y => ∃ i, i ≤ n ∧ J i y, fun y => n - (ix y - c).toNat, ⟨0, Nat.zero_le _, h0⟩, ?_⟩
  rintro y ⟨i, hi, hJ⟩
  rcases Nat.lt_or_ge i n with h | h
  · refine hs i y _ h hJ fun z hz => ⟨⟨i + 1, h, hz⟩, ?_⟩
    have h1 := hix i y hJ
    have h2 := hix (i + 1) z hz
    dsimp only
    rw [h1, h2]
    omega
  · obtain rfl : i = n := by omega
    exact he y _ hJ
/-- A loop over a known sequence of states. -/
theorem loopUp {σ : Type} {n : Nat} (f : Nat → σ) (ix : σ → Int) (c : Int) (hix : ∀ i, ix (f i) = i + c) {x0 : σ} {body : σ → (σ → Prop) → Prop} (h0 : x0 = f 0)
    (hs : ∀ i (next : σ → Prop), i < n → next (f (i + 1)) → body (f i) next) (he : ∀ (next : σ → Prop), body (f n) next) : loopW x0 body :=
  loopInv (fun i y => y = f i) ix c (fun i y h => by rw [h]; exact hix i) h0 (fun i y next hi hy hn => hy ▸ hs i next hi (hn _ rfl)) (fun y next hy => hy ▸ he next)
/-- A search. -/
theorem scanW {n : Nat} (P : Nat → Prop) {E : Prop} {st : Int → (Int → Prop) → Prop} (hn : n ≤ 9223372036854775807)
    (hs : ∀ (i : Nat) (next : Int → Prop), i < n → (∀ j, j < i → ¬ P j) → (¬ P i → rng ((i : Int) + 1) ∧ next ((i : Int) + 1)) → st (i : Int) next)
    (he : (∀ j, j < n → ¬ P j) → E) : loopW (σ := Int) 0 (fun x next => condW (decide (x < (n : Int))) (st x next) E) := by
  refine loopInv (n := n) (fun i y => y = (i : Int) ∧ ∀ j, j < i → ¬ P j) (fun y => y) 0 (fun i y h => by rw [h.1, Int.add_zero]) ⟨rfl, fun j hj => absurd hj (by omega)⟩ ?_ ?_
  · rintro i _ next hi ⟨rfl, hI⟩ hn2
    refine condT (fun hc => hs i next hi hI fun hP => ⟨by unfold rng; omega, hn2 _ ⟨by omega, fun j hj => ?_⟩⟩) (fun hc => absurd (show (i : Int) < n by omega) hc)
    rcases Nat.lt_or_ge j i with h1 | h1
    · exact hI j h1
    · obtain rfl : j = i := by omega
      exact hP
  · rintro _ next ⟨rfl, hI⟩
    exact condT (fun hc => absurd hc (by omega)) (fun _ => he hI)
/-- The first number that is not 0. -/
def firstE (g : Nat → Int) : Nat → Int
  | 0 => 0
  | n + 1 => if firstE g n = 0 then g n else firstE g n
theorem firstE_zero {g : Nat → Int} : ∀ {n : Nat}, firstE g n = 0 ↔ ∀ i, i < n → g i = 0
  | 0 => ⟨fun _ i hi => absurd hi (by omega), fun _ => rfl⟩
  | n + 1 => by
    rw [firstE]
    constructor
    · intro h i hi
      split at h
      · rename_i h1
        rcases Nat.lt_or_ge i n with h2 | h2
        · exact firstE_zero.1 h1 i h2
        · obtain rfl : i = n := by omega
          exact h
      · rename_i h1; exact absurd h h1
    · intro h
      rw [if_pos (firstE_zero.2 fun i hi => h i (by omega))]
      exact h n (by omega)
theorem firstE_hit {g : Nat → Int} {i : Nat} (h : ∀ j, j < i → g j = 0) (hg : g i ≠ 0) : ∀ n, i < n → firstE g n = g i
  | 0, hn => absurd hn (by omega)
  | n + 1, hn => by
    rw [firstE]
    rcases Nat.lt_or_ge i n with h1 | h1
    · rw [firstE_hit h hg n h1, if_neg hg]
    · obtain rfl : i = n := by omega
      rw [if_pos (firstE_zero.2 h)]
theorem firstE_congr {g g' : Nat → Int} : ∀ n, (∀ i, i < n → g i = g' i) → firstE g n = firstE g' n
  | 0, _ => rfl
  | n + 1, h => by rw [firstE, firstE, firstE_congr n (fun i hi => h i (by omega)), h n (by omega)]
end Go.Gg
