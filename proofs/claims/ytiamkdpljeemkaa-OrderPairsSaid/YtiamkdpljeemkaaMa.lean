/- What the functions on natural numbers compute, told of their formulas: part A. Conditions: none. -/
import Derived.Test.YtiamkdpljeemkaaGc
import Derived.KernelRfl
import Derived.Test.YtiamkdpljeemkaaWa
import Derived.Test.YtiamkdpljeemkaaGd
/- What the functions on natural numbers compute, told of their formulas: part A. Conditions: none. -/
namespace Go.Gg
theorem at_int (l : List Int) (i : Int) : at' l i = l.getD i.toNat 0 := rfl
theorem at_nat (l : List Int) (i : Nat) : at' l (i : Int) = l.getD i 0 := rfl
theorem set_nat {α : Type} (l : List α) (i : Nat) (x : α) : set' l (i : Int) x = l.set i x := rfl
theorem rep_nat {α : Type} (n : Nat) (x : α) : rep' (n : Int) x = List.replicate n x := rfl
theorem letIn {α : Type} {e : α} {k : α → Prop} (h : k e) : setW e k := fun _ hv => hv ▸ h
theorem condT {c : Prop} [Decidable c] {a b : Prop} (h1 : c → a) (h2 : ¬ c → b) : condW (decide c) a b := ⟨fun h => h1 (of_decide_eq_true h), fun h => h2 (of_decide_eq_false h)⟩
theorem condE {α : Type} [DecidableEq α] {x y : α} {a b : Prop} (h1 : x = y → a) (h2 : x ≠ y → b) : condW (x == y) a b := ⟨fun h => h1 (by simpa using h), fun h => h2 (by simpa using h)⟩
theorem condN {α : Type} [DecidableEq α] {x y : α} {a b : Prop} (h1 : x ≠ y → a) (h2 : x = y → b) : condW (x != y) a b := ⟨fun h => h1 (by simpa using h), fun h => h2 (by simpa using h)⟩
theorem mk_ok {b : Nat} {n : Nat} (hb : b ≤ 200) (h : n ≤ 1099511627776) : mkOk b (n : Int) (n : Int) := ⟨by omega, Int.le_refl _, by
  have : (b : Int) * (n : Int) ≤ 200 * 1099511627776 := Int.mul_le_mul (by omega) (by omega) (by omega) (by omega)
  omega, by omega⟩
abbrev SM (l : List Int) : Prop := l.length ≤ 1099511627776
theorem natural_word_s {a : List Int} {i : Nat} {Q : Int → Prop} (hw : Words a) (h : Q (a.getD i 0)) : natural_word_W a (i : Int) Q := by
  refine condT (fun hc => ⟨⟨by omega, hc⟩, ?_⟩) (fun hc => ?_)
  · rw [at_nat]
    have := hw i
    rw [wrap_u64_id (by omega) (by omega)]
    exact h
  · rw [getD_ge (by omega)] at h
    exact h
theorem natural_trim_s {a : List Int} {Q : List Int → Prop} (hw : Words a) (hl : SM a) (h : Q (lim (val a))) : natural_trim_W a Q := by
  refine ⟨fun n => ∃ j : Nat, n = j ∧ j ≤ a.length ∧ (∀ i, j ≤ i → i < a.length → a.getD i 0 = 0) ∧ (0 < j → a.getD (j - 1) 0 ≠ 0), ?_, ?_⟩
  · refine ⟨fun n => ∃ j : Nat, n = j ∧ j ≤ a.length ∧ (∀ i, j ≤ i → i < a.length → a.getD i 0 = 0), fun n => n.toNat, ⟨a.length, rfl, Nat.le_refl _, fun i h1 h2 => by omega⟩, ?_⟩
    rintro n ⟨j, rfl, hj, hz⟩
    refine condT (fun hc => ⟨by unfold rng; omega, ⟨by omega, by omega⟩, condE (fun he => ⟨by unfold rng; omega, ⟨j - 1, by omega, by omega, fun i h1 h2 => ?_⟩, by dsimp only; omega⟩) (fun he => ⟨j, rfl, hj, hz, fun _ => ?_⟩)⟩) (fun hc => ⟨j, rfl, hj, hz, fun h0 => by omega⟩)
    · by_cases hi : i = j - 1
      · subst hi
        rw [at_int] at he
        have : ((j : Int) - 1).toNat = j - 1 := by omega
        rwa [this] at he
      · exact hz i (by omega) h2
    · rw [at_int] at he
      have : ((j : Int) - 1).toNat = j - 1 := by omega
      rwa [this] at he
  · rintro n ⟨j, rfl, hj, hz, hlast⟩
    have e := lim_take hw hj hz hlast
    refine condE (fun hc => ?_) (fun hc => ⟨⟨by omega, by omega, by omega⟩, ?_, ?_⟩)
    · obtain rfl : j = 0 := by omega
      rw [← e] at h
      exact h
    · simp [sub']
      have : min j a.length ≤ a.length := by omega
      omega
    · rw [← e] at h
      simpa [sub'] using h
theorem natural_Cmp_s {a b : List Int} {Q : Int → Prop} (ha : Words a) (hb : Words b) (la : SM a) (lb : SM b) (h : Q (cmpv (val a) (val b))) : natural_Cmp_W a b Q := by
  refine natural_trim_s ha la (natural_trim_s hb lb ?_)
  have b1 := lim_len_le ha
  have b2 := lim_len_le hb
  have w1 := lim_words (val a)
  have w2 := lim_words (val b)
  have v1 := val_pv w1
  have v2 := val_pv w2
  rw [val_lim] at v1 v2
  generalize hA : lim (val a) = A at *
  generalize hB : lim (val b) = B at *
  have hlt : A.length < B.length → val a < val b := fun h => by
    rw [← hA, ← hB] at h
    rcases Nat.lt_or_ge (val a) (val b) with h' | h'
    · exact h'
    · have := lim_len_mono h'
      omega
  have hgt : B.length < A.length → val b < val a := fun h => by
    rw [← hA, ← hB] at h
    rcases Nat.lt_or_ge (val b) (val a) with h' | h'
    · exact h'
    · have := lim_len_mono h'
      omega
  unfold SM at la lb
  refine condN (fun hc => condT (fun h1 => ?_) (fun h1 => ?_)) (fun hc => ⟨by unfold rng; omega, ?_⟩)
  · rw [cmpv, if_pos (hlt (by omega))] at h; exact h
  · have := hgt (by omega)
    rw [cmpv, if_neg (by omega), if_neg (by omega)] at h; exact h
  · have hlen : A.length = B.length := by omega
    refine ⟨fun i => ∃ j : Nat, i = (j : Int) - 1 ∧ j ≤ A.length ∧ (∀ k, j ≤ k → k < A.length → A.getD k 0 = B.getD k 0), fun i => (i + 1).toNat, ⟨A.length, rfl, Nat.le_refl _, fun k h1 h2 => by omega⟩, ?_⟩
    rintro i ⟨j, rfl, hj, he⟩
    have hj1 : ((j : Int) - 1).toNat = j - 1 := by omega
    refine condT (fun hc => ⟨⟨by omega, by omega⟩, ⟨by omega, by omega⟩, ?_⟩) (fun hc => ?_)
    · rw [at_int, at_int, hj1]
      refine condT (fun h1 => ?_) (fun h1 => ⟨⟨by omega, by omega⟩, ⟨by omega, by omega⟩, condT (fun h2 => ?_) (fun h2 => ⟨by unfold rng; omega, ⟨j - 1, by omega, by omega, fun k h3 h4 => ?_⟩, by dsimp only; omega⟩)⟩)
      · have := pv_lt w1 w2 (i := j - 1) (n := A.length) (by omega) h1 (fun k h1 h2 => he k (by omega) h2)
        rw [← hlen] at v2
        rw [cmpv, if_pos (by omega)] at h; exact h
      · have := pv_lt w2 w1 (i := j - 1) (n := A.length) (by omega) h2 (fun k h1 h2 => (he k (by omega) h2).symm)
        rw [← hlen] at v2
        rw [cmpv, if_neg (by omega), if_neg (by omega)] at h; exact h
      · by_cases hk : k = j - 1
        · subst hk; omega
        · exact he k (by omega) h4
    · have := pv_congr (l := A) (m := B) A.length (fun k hk => he k (by omega) hk)
      rw [← hlen] at v2
      rw [cmpv, if_neg (by omega), if_pos (by omega)] at h; exact h
theorem natural_Add_s {a b : List Int} {Q : List Int → Prop} (ha : Words a) (hb : Words b) (la : SM a) (lb : a.length ≤ 1099511627775 ∧ b.length ≤ 1099511627775) (h : Q (lim (val a + val b))) : natural_Add_W a b Q := by
  unfold SM at la
  obtain ⟨n, hn0⟩ : ∃ n, n = max a.length b.length + 1 := ⟨_, rfl⟩
  have hn : max (a.length : Int) (b.length : Int) + 1 = (n : Int) := by omega
  unfold natural_Add_W
  rw [hn]
  refine ⟨by unfold rng; omega, mk_ok (by omega) (by omega), ?_⟩
  rw [Int.toNat_natCast]
  refine ⟨fun y => ∃ i : Nat, y.2.1 = i ∧ i ≤ n ∧ y.2.2.length = n ∧ Words y.2.2 ∧ 0 ≤ y.1 ∧ y.1 ≤ 1 ∧ pv y.2.2 i + y.1 * 4294967296 ^ i = pv a i + pv b i, fun y => n - y.2.1.toNat, ⟨0, rfl, by omega, by simp [rep'], Words.rep n, by omega, by omega, by simp [pv]⟩, ?_⟩
  rintro ⟨c, x, out⟩ ⟨i, hx, hi, hlen, hw, hc0, hc1, hpv⟩
  simp only at hx hi hlen hw hc0 hc1 hpv
  subst hx
  have hxl := ha i
  have hxm := hb i
  refine condT (fun hlt => ?_) (fun hge => ?_)
  · refine natural_word_s ha (natural_word_s hb (letIn ⟨⟨by omega, by omega⟩, by unfold rng; omega, ?_, ?_⟩))
    · simp (disch := omega) only [set_nat, wrap_u64_id, wrap_u32]
      refine ⟨i + 1, by omega, by omega, by simp [hlen], hw.set _ (by omega) (by omega), by show 0 ≤ _ / 4294967296; omega, by show _ / 4294967296 ≤ 1; omega, ?_⟩
      show pv (out.set i _) (i + 1) + _ / 4294967296 * _ = _
      rw [pv_set (by omega), Int.pow_succ, pv, pv, Int.add_assoc, split_w]
      have := Int.add_mul c (a.getD i 0 + b.getD i 0) (4294967296 ^ i)
      have := Int.add_mul (a.getD i 0) (b.getD i 0) (4294967296 ^ i)
      omega
    · show n - ((i : Int) + 1).toNat < n - (i : Int).toNat
      omega
  · obtain rfl : i = n := by omega
    refine natural_trim_s hw (by unfold SM; omega) ?_
    have e : val out = val a + val b := by
      have a1 := val_pv' hw (i := i) (by omega)
      have a2 := val_pv' ha (i := i) (by omega)
      have a3 := val_pv' hb (i := i) (by omega)
      have b2 := pv_ge (l := a) (i - 1) (by omega)
      have b3 := pv_ge (l := b) (i - 1) (by omega)
      have b4 := pv_ge (l := a) i (by omega)
      have b5 := pv_ge (l := b) i (by omega)
      have c2 := (pv_bound ha (i - 1)).2
      have c3 := (pv_bound hb (i - 1)).2
      have hi1 : i = i - 1 + 1 := by omega
      have hc := hpv
      rw [hi1, Int.pow_succ, ← hi1] at hc
      have := carry_zero hc (by omega) (by omega) (by omega) hc0 hc1 (pow_pos_w _)
      subst this
      omega
    rw [e]
    exact h
theorem natural_Sub_s {a b : List Int} {Q : List Int → Option Int → Prop} (ha : Words a) (hb : Words b) (la : SM a) (lb : SM b) (h1 : val a < val b → Q [] (some 3)) (h2 : val b ≤ val a → Q (lim (val a - val b)) none) : natural_Sub_W a b Q := by
  refine natural_Cmp_s ha hb la lb (condT (fun hc => h1 (cmpv_lt.1 hc)) (fun hc => ⟨mk_ok (by omega) la, ?_⟩))
  have hge : val b ≤ val a := by have := mt cmpv_lt.2 hc; omega
  have h := h2 hge
  clear h1 h2
  unfold SM at la lb
  rw [Int.toNat_natCast]
  refine ⟨fun y => ∃ i : Nat, y.2.1 = i ∧ i ≤ a.length ∧ y.2.2.length = a.length ∧ Words y.2.2 ∧ 0 ≤ y.1 ∧ y.1 ≤ 1 ∧ pv y.2.2 i = pv a i - pv b i + y.1 * 4294967296 ^ i, fun y => a.length - y.2.1.toNat, ⟨0, rfl, by omega, by simp [rep'], Words.rep _, by omega, by omega, by simp [pv]⟩, ?_⟩
  rintro ⟨c, x, out⟩ ⟨i, hx, hi, hlen, hw, hb0, hb1, hpv⟩
  simp only at hx hi hlen hw hb0 hb1 hpv
  subst hx
  have hxl := ha i
  have hxm := hb i
  obtain ⟨q1, q2, q3⟩ := sub_step (a.getD i 0) (b.getD i 0) c hxl hxm ⟨hb0, hb1⟩
  refine condT (fun hlt => natural_word_s ha (natural_word_s hb (letIn ⟨⟨by omega, by omega⟩, by unfold rng; omega, ?_, by dsimp only; omega⟩))) (fun hge => ?_)
  · simp only [set_nat, wrap_u32]
    generalize IntKind.u64.wrap (IntKind.u64.wrap (a.getD i 0 - b.getD i 0) - c) = d at *
    have e63 : d / 2 ^ Int.toNat 63 = d / 9223372036854775808 := rfl
    refine ⟨i + 1, by omega, by omega, by simp [hlen], hw.set _ (by omega) (by omega), by simpa only [e63] using q2, by simpa only [e63] using q3, ?_⟩
    simp only [e63]
    rw [pv_set (by omega), Int.pow_succ, pv, pv, hpv]
    have e : d % 4294967296 = a.getD i 0 - b.getD i 0 - c + 4294967296 * (d / 9223372036854775808) := by omega
    rw [e]
    generalize d / 9223372036854775808 = d'
    have a1 := Int.add_mul (a.getD i 0 - b.getD i 0 - c) (4294967296 * d') (4294967296 ^ i)
    have a2 := Int.sub_mul (a.getD i 0 - b.getD i 0) c (4294967296 ^ i)
    have a3 := Int.sub_mul (a.getD i 0) (b.getD i 0) (4294967296 ^ i)
    have a4 : 4294967296 * d' * 4294967296 ^ i = d' * (4294967296 ^ i * 4294967296) := by rw [Int.mul_comm 4294967296 d', Int.mul_assoc, Int.mul_comm 4294967296]
    omega
  · obtain rfl : i = a.length := by omega
    refine natural_trim_s hw (by unfold SM; omega) ?_
    have e : val out = val a - val b := by
      have a1 := val_pv' hw (i := a.length) (by omega)
      have a2 := val_pv ha
      have a3 := pv_bound ha a.length
      have a4 := pv_bound hw a.length
      have a5 := pv_bound hb a.length
      have a6 := val_pv hb
      rcases Nat.lt_or_ge a.length b.length with h | h
      · have hm1 := pv_ge_low hb (Nat.le_of_lt h)
        rcases (by omega : c = 0 ∨ c = 1) with rfl | rfl
        · -- the words beyond are zero, for b is not greater: its lower part and the rest
          have hz : pv b b.length = pv b a.length := by
            -- what lies beyond would be at least one word of weight 2^(32 n)
            refine pv_high hb (Nat.le_of_lt h) ?_
            omega
          omega
        · omega
      · have hm1 := val_pv' hb h
        rcases (by omega : c = 0 ∨ c = 1) with rfl | rfl <;> omega
    rw [e]
    exact h
theorem natural_Mul_s {a b : List Int} {Q : List Int → Prop} (ha : Words a) (hb : Words b) (la : a.length + b.length ≤ 1099511627776) (h : Q (lim (val a * val b))) : natural_Mul_W a b Q := by
  obtain ⟨N, hN⟩ : ∃ N, N = a.length + b.length := ⟨_, rfl⟩
  have hNi : (a.length : Int) + (b.length : Int) = (N : Int) := by omega
  unfold natural_Mul_W
  rw [hNi]
  refine ⟨by unfold rng; omega, mk_ok (by omega) (by omega), ?_⟩
  refine ⟨fun y => ∃ i : Nat, y.1 = i ∧ i ≤ a.length ∧ y.2.length = N ∧ Words y.2 ∧ (∀ p, i + b.length ≤ p → y.2.getD p 0 = 0) ∧ pv y.2 N = pv a i * pv b b.length, fun y => a.length - y.1.toNat,
    ⟨0, rfl, by omega, by simp [rep'], Words.rep _, fun p hp => by rw [rep_nat, List.getD_eq_getElem?_getD, List.getElem?_replicate]; split <;> rfl, by rw [rep_nat, pv_rep]; simp [pv]⟩, ?_⟩
  rintro ⟨x, out⟩ ⟨i, hx, hi, hlen, hw, hz, hpv⟩
  simp only at hx hi hlen hw hz hpv
  subst hx
  have hxi := ha i
  refine condT (fun hlt => ⟨⟨by omega, hlt⟩, ?_⟩) (fun hge => ?_)
  · refine ⟨fun y => ∃ k : Nat, y.2.1 = k ∧ k ≤ b.length ∧ y.2.2.length = N ∧ Words y.2.2 ∧ (∀ p, i + b.length ≤ p → y.2.2.getD p 0 = 0) ∧ 0 ≤ y.1 ∧ y.1 < 4294967296 ∧
        pv y.2.2 N + y.1 * 4294967296 ^ (i + k) = pv a i * pv b b.length + a.getD i 0 * 4294967296 ^ i * pv b k, fun y => b.length - y.2.1.toNat,
      ⟨0, rfl, by omega, hlen, hw, hz, by omega, by omega, by simp [pv, hpv]⟩, ?_⟩
    clear hpv hz hw hlen h
    rintro ⟨c, x1, out2⟩ ⟨k, hx, hk, hlen, hw, hz, hc0, hc1, hpv⟩
    simp only at hx hk hlen hw hz hc0 hc1 hpv
    subst hx
    have hy := hb k
    have ho := hw (i + k)
    obtain ⟨q1, q2⟩ := mul_le_w hxi hy
    have eik : (i : Int) + (k : Int) = ((i + k : Nat) : Int) := by omega
    have eib : (i : Int) + (b.length : Int) = ((i + b.length : Nat) : Int) := by omega
    refine condT (fun hlt2 => ⟨⟨by omega, hlt2⟩, by unfold rng; omega, ⟨by omega, by omega⟩, letIn ⟨by unfold rng; omega, ⟨by omega, by omega⟩, by unfold rng; omega, ?_, by dsimp only; omega⟩⟩) (fun hge2 => ⟨by unfold rng; omega, ⟨by omega, by omega⟩, by unfold rng; omega, ?_, by dsimp only; omega⟩)
    · simp only [eik, at_nat, set_nat]
      simp (disch := omega) only [wrap_u64_id, wrap_u32]
      have e32 : ∀ z : Int, z / 2 ^ Int.toNat 32 = z / 4294967296 := fun _ => rfl
      simp only [e32]
      generalize hv : c + (a.getD i 0 * b.getD k 0 + out2.getD (i + k) 0) = v
      refine ⟨k + 1, by omega, by omega, by simp [hlen], hw.set _ (by omega) (by omega), fun p hp => ?_, by show 0 ≤ v / 4294967296; omega, by show v / 4294967296 < 4294967296; omega, ?_⟩
      · show (out2.set (i + k) _).getD p 0 = 0
        rw [getD_set_of_ne (by omega)]; exact hz p hp
      · show pv (out2.set (i + k) (v % 4294967296)) N + v / 4294967296 * 4294967296 ^ (i + (k + 1)) = _
        rw [pv_set_full (by omega) N (by omega), pv, ← Nat.add_assoc, Int.pow_succ, Int.mul_add, ← Int.add_assoc, ← hpv]
        have s1 := split_w v (4294967296 ^ (i + k))
        have s2 := Int.sub_mul (v % 4294967296) (out2.getD (i + k) 0) (4294967296 ^ (i + k))
        have s3 : v * 4294967296 ^ (i + k) = c * 4294967296 ^ (i + k) + (a.getD i 0 * 4294967296 ^ i * (b.getD k 0 * 4294967296 ^ k) + out2.getD (i + k) 0 * 4294967296 ^ (i + k)) := by
          rw [← hv, Int.add_mul, Int.add_mul, Int.pow_add]
          congr 2
          rw [Int.mul_assoc, Int.mul_assoc, Int.mul_left_comm (b.getD k 0)]
        omega
    · obtain rfl : k = b.length := by omega
      simp only [eib, set_nat, wrap_u32]
      have hcm : c % 4294967296 = c := by omega
      rw [hcm]
      refine ⟨i + 1, by omega, by omega, by simp [hlen], hw.set _ (by omega) (by omega), fun p hp => ?_, ?_⟩
      · show (out2.set (i + b.length) c).getD p 0 = 0
        rw [getD_set_of_ne (by omega)]; exact hz p (by omega)
      · show pv (out2.set (i + b.length) c) N = pv a (i + 1) * _
        rw [pv_set_full (by omega) N (by omega), hz (i + b.length) (by omega), pv, Int.add_mul, Int.sub_zero]
        exact hpv
  · obtain rfl : i = a.length := by omega
    refine natural_trim_s hw (by unfold SM; omega) ?_
    have e : val out = val a * val b := by
      have a1 := val_pv' hw (i := N) (by omega)
      have a2 := val_pv ha
      have a3 := val_pv hb
      have : ((val a * val b : Nat) : Int) = (val a : Int) * (val b : Int) := by simp
      have : (val out : Int) = ((val a * val b : Nat) : Int) := by rw [this, a1, hpv, a2, a3]
      omega
    rw [e]
    exact h
end Go.Gg
namespace Go.Gg
theorem or_nat {x y i : Nat} (hx : x < 2 ^ i) (hy : 2 ^ i ∣ y) : y ||| x = y + x := by
  obtain ⟨z, rfl⟩ := hy
  rw [Nat.mul_comm, ← Nat.shiftLeft_eq, Nat.shiftLeft_add_eq_or_of_lt hx]
theorem or_u64 {x y : Int} (i : Nat) (hx : 0 ≤ x) (hxi : x < 2 ^ i) (hy : 0 ≤ y) (hyi : y % 2 ^ i = 0) (hs : y + x < 18446744073709551616) : bits .or .u64 y x = y + x := by
  obtain ⟨m, rfl⟩ := Int.eq_ofNat_of_zero_le hx
  obtain ⟨n, rfl⟩ := Int.eq_ofNat_of_zero_le hy
  have h1 : m < 2 ^ i := by exact_mod_cast hxi
  have h2 : 2 ^ i ∣ n := by
    have : (n : Int) % ((2 ^ i : Nat) : Int) = 0 := by simpa using hyi
    exact Nat.dvd_of_mod_eq_zero (by omega)
  have h3 := or_nat h1 h2
  show IntKind.u64.wrap (((BitVec.ofInt 64 (n : Int)) ||| (BitVec.ofInt 64 (m : Int))).toNat : Int) = _
  rw [wrap_u64, BitVec.toNat_or, BitVec.toNat_ofInt, BitVec.toNat_ofInt]
  have e1 : ((n : Int) % ((2 ^ 64 : Nat) : Int)).toNat = n := by omega
  have e2 : ((m : Int) % ((2 ^ 64 : Nat) : Int)).toNat = m := by omega
  rw [e1, e2, h3]
  omega
theorem or_u64' {x y : Int} (i : Nat) (hx : 0 ≤ x) (hxi : x < 2 ^ i) (hy : 0 ≤ y) (hyi : y % 2 ^ i = 0) (hs : y + x < 18446744073709551616) : bits .or .u64 x y = y + x := by
  rw [← or_u64 i hx hxi hy hyi hs]
  show IntKind.u64.wrap (((BitVec.ofInt 64 x) ||| (BitVec.ofInt 64 y)).toNat : Int) = IntKind.u64.wrap (((BitVec.ofInt 64 y) ||| (BitVec.ofInt 64 x)).toNat : Int)
  rw [BitVec.or_comm]
theorem or_u32' {x y : Int} (i : Nat) (hx : 0 ≤ x) (hxi : x < 2 ^ i) (hy : 0 ≤ y) (hyi : y % 2 ^ i = 0) (hs : y + x < 4294967296) : bits .or .u32 x y = y + x := by
  obtain ⟨m, rfl⟩ := Int.eq_ofNat_of_zero_le hx
  obtain ⟨n, rfl⟩ := Int.eq_ofNat_of_zero_le hy
  have h1 : m < 2 ^ i := by exact_mod_cast hxi
  have h2 : 2 ^ i ∣ n := by
    have : (n : Int) % ((2 ^ i : Nat) : Int) = 0 := by simpa using hyi
    exact Nat.dvd_of_mod_eq_zero (by omega)
  have h3 := or_nat h1 h2
  show IntKind.u32.wrap (((BitVec.ofInt 32 (m : Int)) ||| (BitVec.ofInt 32 (n : Int))).toNat : Int) = _
  rw [wrap_u32, BitVec.toNat_or, BitVec.toNat_ofInt, BitVec.toNat_ofInt]
  have e1 : ((n : Int) % ((2 ^ 32 : Nat) : Int)).toNat = n := by omega
  have e2 : ((m : Int) % ((2 ^ 32 : Nat) : Int)).toNat = m := by omega
  rw [e1, e2, Nat.or_comm, h3]
  omega
/-- How many bits a number has. -/
def blen (n : Nat) : Nat := if n = 0 then 0 else n.log2 + 1
theorem blen_zero : blen 0 = 0 := rfl
theorem blen_lt {n : Nat} : n < 2 ^ blen n := by
  unfold blen
  split
  · omega
  · exact Nat.lt_log2_self
theorem blen_le {n : Nat} (h : n ≠ 0) : 2 ^ (blen n - 1) ≤ n := by
  unfold blen
  rw [if_neg h]
  exact Nat.log2_self_le h
theorem blen_uniq {n k : Nat} (h : n < 2 ^ k) (h' : k ≠ 0 → 2 ^ (k - 1) ≤ n) : blen n = k := by
  by_cases h0 : n = 0
  · subst h0
    cases k with
    | zero => rfl
    | succ k => have := h' (by omega); have : 0 < 2 ^ k := Nat.pow_pos (by omega); simp at *
  · have a := blen_lt (n := n)
    have b := blen_le h0
    have hk : k ≠ 0 := by rintro rfl; simp at h; omega
    have c := h' hk
    have hb : blen n ≠ 0 := by unfold blen; rw [if_neg h0]; omega
    rcases Nat.lt_trichotomy (blen n) k with hlt | he | hgt
    · have : 2 ^ blen n ≤ 2 ^ (k - 1) := Nat.pow_le_pow_right (by omega) (by omega)
      omega
    · exact he
    · have : 2 ^ k ≤ 2 ^ (blen n - 1) := Nat.pow_le_pow_right (by omega) (by omega)
      omega
theorem blen_shift {n k : Nat} (h : 2 ^ k ≤ n) : blen n = blen (n / 2 ^ k) + k := by
  have hp : 0 < 2 ^ k := Nat.pow_pos (by omega)
  have hq : n / 2 ^ k ≠ 0 := by have := Nat.div_pos h hp; omega
  have a := blen_lt (n := n / 2 ^ k)
  have b := blen_le hq
  have hb : blen (n / 2 ^ k) ≠ 0 := by unfold blen; rw [if_neg hq]; omega
  refine blen_uniq ?_ (fun _ => ?_)
  · rw [Nat.pow_add]
    rw [Nat.div_lt_iff_lt_mul hp] at a
    exact a
  · have e : blen (n / 2 ^ k) + k - 1 = (blen (n / 2 ^ k) - 1) + k := by omega
    rw [e, Nat.pow_add]
    rw [Nat.le_div_iff_mul_le hp] at b
    exact b
theorem tab_all : (List.range 256).all (fun k => byteAt str_633d862b k == (blen k : Int)) = true := by kernel_rfl
theorem tab_at {k : Nat} (h : k < 256) : byteAt str_633d862b k = (blen k : Int) := by
  have := List.all_eq_true.1 tab_all k (by simpa using h)
  simpa using this
theorem tab_size : str_633d862b.size = 256 := by kernel_rfl
theorem len32_s {x : Nat} {Q : Int → Prop} (hx : x < 4294967296) (h : Q (blen x)) : math_bits_Len32_W (x : Int) Q := by
  refine ⟨fun y => ∃ z k : Nat, y = ((z : Int), (k : Int)) ∧ z < 65536 ∧ k ≤ 16 ∧ blen x = blen z + k, ?_, ?_⟩
  · refine condT (fun hc => ⟨x / 65536, 16, ?_, by omega, by omega, ?_⟩) (fun hc => ⟨x, 0, rfl, by omega, by omega, rfl⟩)
    · show ((x : Int) / 65536, (16 : Int)) = _
      rw [Prod.mk.injEq]; exact ⟨by omega, rfl⟩
    · exact blen_shift (k := 16) (by omega)
  · rintro _ ⟨z, k, rfl, hz, hk, hb⟩
    refine ⟨fun y => ∃ z k : Nat, y = ((z : Int), (k : Int)) ∧ z < 256 ∧ k ≤ 24 ∧ blen x = blen z + k, ?_, ?_⟩
    · refine condT (fun hc => ⟨by unfold rng; omega, z / 256, k + 8, ?_, by omega, by omega, ?_⟩) (fun hc => ⟨z, k, rfl, by omega, by omega, hb⟩)
      · show ((z : Int) / 256, (k : Int) + 8) = _
        rw [Prod.mk.injEq]; exact ⟨by omega, by omega⟩
      · have h8 := blen_shift (n := z) (k := 8) (by omega)
        have e : z / 2 ^ 8 = z / 256 := rfl
        rw [e] at h8
        omega
    · rintro _ ⟨z, k, rfl, hz, hk, hb⟩
      show (_ ∧ _)
      have hw : IntKind.u8.wrap (z : Int) = z := by rw [wrap_u8]; omega
      have hz' : (blen z : Int) ≤ 8 := by
        have : blen z ≤ 8 := by
          by_cases h0 : z = 0
          · subst h0; simp [blen]
          · have := blen_le h0
            rcases Nat.lt_or_ge 8 (blen z) with h8 | h8
            · have : 2 ^ 8 ≤ 2 ^ (blen z - 1) := Nat.pow_le_pow_right (by omega) (by omega)
              omega
            · exact h8
        omega
      rw [hw, tab_size]
      have e : (Int.toNat (z : Int)) = z := by omega
      rw [e, tab_at hz, rng_wrap (by unfold rng; omega)]
      refine ⟨⟨by omega, by omega⟩, by unfold rng; omega, letIn ?_⟩
      have : (k : Int) + (blen z : Int) = ((blen x : Nat) : Int) := by omega
      rw [this]
      exact h
theorem blen_le32 {x : Nat} (hx : x < 4294967296) : blen x ≤ 32 := by
  by_cases h0 : x = 0
  · subst h0; simp [blen]
  · have := blen_le h0
    rcases Nat.lt_or_ge 32 (blen x) with h8 | h8
    · have : 2 ^ 32 ≤ 2 ^ (blen x - 1) := Nat.pow_le_pow_right (by omega) (by omega)
      omega
    · exact h8
theorem lz32_s {x : Nat} {Q : Int → Prop} (hx : x < 4294967296) (h : Q ((32 - blen x : Nat) : Int)) : math_bits_LeadingZeros32_W (x : Int) Q := by
  refine len32_s hx ?_
  have h1 := blen_le32 hx
  refine ⟨by unfold rng; omega, ?_⟩
  have : (32 : Int) - (blen x : Int) = ((32 - blen x : Nat) : Int) := by omega
  rw [this]
  exact h
end Go.Gg
namespace Go.Gg
theorem two_split {n : Nat} (h : n ≤ 32) : (2 : Int) ^ n * 2 ^ (32 - n) = 4294967296 := by
  rw [← Int.pow_add]
  have : n + (32 - n) = 32 := by omega
  rw [this]; rfl
theorem pow2_pos (n : Nat) : (0 : Int) < 2 ^ n := Int.pow_pos (by omega)
theorem natural_left_s {a : List Int} {n : Nat} {Q : List Int → Prop} (ha : Words a) (la : a.length ≤ 1099511627775) (hn : n ≤ 32) (h : ∀ out, Words out → out.length = a.length + 1 → val out = val a * 2 ^ n → Q out) : natural_left_W a (n : Int) Q := by
  have hL : (a.length : Int) + 1 = ((a.length + 1 : Nat) : Int) := by omega
  unfold natural_left_W
  rw [hL]
  have hs := two_split hn
  have hpp := pow2_pos n
  have hqp := pow2_pos (32 - n)
  generalize hp : (2 : Int) ^ n = p at *
  generalize (2 : Int) ^ (32 - n) = q at *
  have hple : p ≤ 4294967296 := by
    have : p * 1 ≤ p * q := Int.mul_le_mul_of_nonneg_left (by omega) (by omega)
    omega
  have hdvd : p ∣ 4294967296 := ⟨q, hs.symm⟩
  refine ⟨by unfold rng; omega, mk_ok (by omega) (by omega), fun y => ∃ i : Nat, y.1 = i ∧ i ≤ a.length ∧ y.2.length = a.length + 1 ∧ Words y.2 ∧ (∀ k, i < k → y.2.getD k 0 = 0) ∧ y.2.getD i 0 < p ∧ pv y.2 (i + 1) = pv a i * p, fun y => a.length - y.1.toNat,
    ⟨0, rfl, by omega, by simp [rep'], Words.rep _, fun k hk => ?_, ?_, ?_⟩, ?_⟩
  · show (List.replicate (a.length + 1) (0 : Int)).getD k 0 = 0
    rw [List.getD_eq_getElem?_getD, List.getElem?_replicate]; split <;> rfl
  · show (List.replicate (a.length + 1) (0 : Int)).getD 0 0 < p
    simp; omega
  · show pv (List.replicate (a.length + 1) (0 : Int)) 1 = _
    rw [pv_rep]; simp [pv]
  rintro ⟨x, out⟩ ⟨i, hx, hi, hlen, hw, hz, hlow, hpv⟩
  simp only at hx hi hlen hw hz hlow hpv
  subst hx
  have hxi := ha i
  have hoi := hw i
  refine condT (fun hlt => ⟨⟨by omega, hlt⟩, ⟨by omega, by omega⟩, ?_⟩) (fun hge => ?_)
  · rw [at_nat, Int.toNat_natCast, hp]
    have hy0 : 0 ≤ a.getD i 0 * p := Int.mul_nonneg hxi.1 (by omega)
    have hy1 : a.getD i 0 * p < 4294967296 * p := Int.mul_lt_mul_of_pos_right hxi.2 hpp
    have hy2 : 4294967296 * p ≤ 4294967296 * 4294967296 := Int.mul_le_mul_of_nonneg_left hple (by omega)
    rw [wrap_u64_id hxi.1 (by omega), wrap_u64_id hy0 (by omega)]
    refine letIn ?_
    have hdy : p ∣ a.getD i 0 * p := ⟨_, Int.mul_comm _ _⟩
    have hhi : a.getD i 0 * p / 4294967296 < p := by
      rw [Int.ediv_lt_iff_lt_mul (by omega)]
      rw [Int.mul_comm p]; exact hy1
    generalize hv : a.getD i 0 * p = y at *
    refine ⟨⟨by omega, by omega⟩, ⟨by omega, by omega⟩, by unfold rng; omega, ⟨by omega, by omega⟩, by unfold rng; omega, ?_, by dsimp only; omega⟩
    have e1 : (i : Int) + 1 = ((i + 1 : Nat) : Int) := by omega
    have e32 : y / 2 ^ Int.toNat 32 = y / 4294967296 := rfl
    have hm : (y % 4294967296) % p = 0 := by rw [Int.emod_emod_of_dvd _ hdvd]; exact Int.emod_eq_zero_of_dvd hdy
    have hh0 : 0 ≤ y / 4294967296 := by omega
    have hor : bits .or .u32 (out.getD i 0) (y % 4294967296) = y % 4294967296 + out.getD i 0 := by
      refine or_u32' n hoi.1 (by rw [hp]; exact hlow) (by omega) (by rw [hp]; exact hm) ?_
      -- y mod 2^32 is a multiple of p, so at most 2^32 - p
      obtain ⟨z, hz'⟩ := Int.dvd_of_emod_eq_zero hm
      have : z < q := by
        rcases Int.lt_or_le z q with h1 | h1
        · exact h1
        · have : p * q ≤ p * z := Int.mul_le_mul_of_nonneg_left h1 (by omega)
          omega
      have : p * z ≤ p * (q - 1) := Int.mul_le_mul_of_nonneg_left (by omega) (by omega)
      rw [Int.mul_sub, hs] at this
      omega
    rw [e1, at_nat, set_nat, set_nat, e32, wrap_u32, wrap_u32, hor]
    have hlo : y % 4294967296 + out.getD i 0 < 4294967296 := by
      obtain ⟨z, hz'⟩ := Int.dvd_of_emod_eq_zero hm
      have : z < q := by
        rcases Int.lt_or_le z q with h1 | h1
        · exact h1
        · have : p * q ≤ p * z := Int.mul_le_mul_of_nonneg_left h1 (by omega)
          omega
      have : p * z ≤ p * (q - 1) := Int.mul_le_mul_of_nonneg_left (by omega) (by omega)
      rw [Int.mul_sub, hs] at this
      omega
    have hmod : y / 4294967296 % 4294967296 = y / 4294967296 := by omega
    rw [hmod]
    refine ⟨i + 1, rfl, by omega, by simp [hlen], (hw.set _ (by omega) (by omega)).set _ hh0 (by omega), fun k hk => ?_, ?_, ?_⟩
    · show ((out.set i _).set (i + 1) _).getD k 0 = 0
      rw [getD_set_of_ne (by omega), getD_set_of_ne (by omega)]
      exact hz k (by omega)
    · show ((out.set i _).set (i + 1) _).getD (i + 1) 0 < p
      rw [getD_set_self (by simp; omega)]
      exact hhi
    · show pv ((out.set i _).set (i + 1) _) (i + 1 + 1) = _
      rw [pv_set (by simp; omega), pv_set (by omega), pv, Int.pow_succ]
      rw [pv] at hpv
      have s4 := Int.add_mul (pv a i) (a.getD i 0 * 4294967296 ^ i) p
      have s1 := split_w y (4294967296 ^ i)
      have s2 := Int.add_mul (y % 4294967296) (out.getD i 0) (4294967296 ^ i)
      have s3 : a.getD i 0 * 4294967296 ^ i * p = y * 4294967296 ^ i := by rw [← hv, Int.mul_assoc, Int.mul_comm _ p, ← Int.mul_assoc]
      omega
  · obtain rfl : i = a.length := by omega
    refine h out hw hlen ?_
    have a1 := val_pv hw
    have a2 := val_pv ha
    rw [hlen, hpv, ← a2] at a1
    have : ((val a * 2 ^ n : Nat) : Int) = (val a : Int) * p := by rw [← hp]; simp
    have : (val out : Int) = ((val a * 2 ^ n : Nat) : Int) := by rw [this]; exact a1
    omega
theorem natural_right_s {a : List Int} {n : Nat} {Q : List Int → Prop} (ha : Words a) (la : SM a) (hn : n ≤ 32) (h : ∀ out, Words out → out.length = a.length → val out = val a / 2 ^ n → Q out) : natural_right_W a (n : Int) Q := by
  unfold SM at la
  unfold natural_right_W
  have hs := two_split hn
  have hpp := pow2_pos n
  have hqp := pow2_pos (32 - n)
  generalize hp : (2 : Int) ^ n = p at *
  generalize (2 : Int) ^ (32 - n) = q at *
  have hdvd : p ∣ 4294967296 := ⟨q, hs.symm⟩
  refine ⟨mk_ok (by omega) la, fun y => ∃ i : Nat, y.1 = i ∧ i ≤ a.length ∧ y.2.length = a.length ∧ Words y.2 ∧ pv y.2 i * p = pv a i - a.getD 0 0 % p + (a.getD i 0 % p) * 4294967296 ^ i, fun y => a.length - y.1.toNat,
    ⟨0, rfl, by omega, by simp [rep'], Words.rep _, by simp [pv]; omega⟩, ?_⟩
  rintro ⟨x, out⟩ ⟨i, hx, hi, hlen, hw, hpv⟩
  simp only at hx hi hlen hw hpv
  subst hx
  have h0 := ha i
  have h1 := ha (i + 1)
  have e1 : (i : Int) + 1 = ((i + 1 : Nat) : Int) := by omega
  refine condT (fun hlt => natural_word_s ha ⟨by unfold rng; omega, ?_⟩) (fun hge => ?_)
  · rw [e1]
    refine natural_word_s ha ⟨⟨by omega, by omega⟩, ⟨by omega, by omega⟩, by unfold rng; omega, ?_, by dsimp only; omega⟩
    have e32 : (2 : Int) ^ Int.toNat 32 = 4294967296 := rfl
    rw [e32, Int.toNat_natCast, hp, wrap_u64_id (by omega) (by omega), or_u64' 32 h0.1 h0.2 (by omega) (by show _ % 4294967296 = 0; omega) (by omega), set_nat, wrap_u32]
    -- (a1 W + a0) / p mod W = a0 / p + (a1 mod p) q
    generalize ha0 : a.getD i 0 = x0 at *
    generalize ha1 : a.getD (i + 1) 0 = x1 at *
    have hx0 : 0 ≤ x0 / p := Int.ediv_nonneg h0.1 (by omega)
    have hx0' : x0 / p < q := by rw [Int.ediv_lt_iff_lt_mul hpp, Int.mul_comm, hs]; exact h0.2
    have hm0 : 0 ≤ x1 % p := Int.emod_nonneg _ (by omega)
    have hm1 : x1 % p < p := Int.emod_lt_of_pos _ hpp
    have hdv : (x1 * 4294967296 + x0) / p = x1 * q + x0 / p := by
      rw [← hs, Int.mul_left_comm, Int.add_comm, Int.add_mul_ediv_left _ _ (by omega), Int.add_comm]
    have hk : (x1 * 4294967296 + x0) / p % 4294967296 = (x1 % p) * q + x0 / p := by
      have d1 : x1 = p * (x1 / p) + x1 % p := (Int.mul_ediv_add_emod x1 p).symm
      have d2 : x1 * q + x0 / p = (x1 % p) * q + x0 / p + 4294967296 * (x1 / p) := by
        have : x1 * q = (p * (x1 / p) + x1 % p) * q := by rw [← d1]
        rw [this, Int.add_mul, Int.mul_right_comm, hs]; omega
      rw [hdv, d2, Int.add_mul_emod_self_left]
      refine Int.emod_eq_of_lt ?_ ?_
      · have := Int.mul_nonneg hm0 (Int.le_of_lt hqp); omega
      · have : (x1 % p) * q ≤ (p - 1) * q := Int.mul_le_mul_of_nonneg_right (by omega) (by omega)
        rw [Int.sub_mul, hs] at this; omega
    rw [hk]
    have hq0 := Int.mul_nonneg hm0 (Int.le_of_lt hqp)
    have hq1 : (x1 % p) * q ≤ (p - 1) * q := Int.mul_le_mul_of_nonneg_right (by omega) (by omega)
    rw [Int.sub_mul, hs] at hq1
    refine ⟨i + 1, rfl, by omega, by simp [hlen], hw.set _ (by omega) (by omega), ?_⟩
    show pv (out.set i (x1 % p * q + x0 / p)) (i + 1) * p = pv a (i + 1) - _ + _
    rw [pv_set (by omega), pv, Int.add_mul, hpv, ha0, ha1, Int.pow_succ]
    have d0 : x0 = p * (x0 / p) + x0 % p := (Int.mul_ediv_add_emod x0 p).symm
    have s1 : (x1 % p * q + x0 / p) * 4294967296 ^ i * p = x1 % p * (4294967296 ^ i * 4294967296) + (p * (x0 / p)) * 4294967296 ^ i := by
      rw [Int.add_mul, Int.add_mul]
      congr 1
      · rw [← hs, Int.mul_assoc, Int.mul_assoc, Int.mul_left_comm q, Int.mul_comm q p]
      · rw [Int.mul_right_comm, Int.mul_comm (x0 / p)]
    have s2 : x0 * 4294967296 ^ i = (p * (x0 / p)) * 4294967296 ^ i + x0 % p * 4294967296 ^ i := by
      rw [← Int.add_mul, ← d0]
    omega
  · obtain rfl : i = a.length := by omega
    refine h out hw hlen ?_
    have a1 := val_pv hw
    have a2 := val_pv ha
    rw [hlen] at a1
    rw [getD_ge (Nat.le_refl a.length), Int.zero_emod, Int.zero_mul, ← a2, ← a1] at hpv
    have hr0 : 0 ≤ a.getD 0 0 % p := Int.emod_nonneg _ (by omega)
    have hr1 : a.getD 0 0 % p < p := Int.emod_lt_of_pos _ hpp
    have e : (val a : Int) / p = val out := by
      have : (val a : Int) = p * val out + a.getD 0 0 % p := by rw [Int.mul_comm]; omega
      rw [this, Int.add_comm, Int.add_mul_ediv_left _ _ (by omega), Int.ediv_eq_zero_of_lt hr0 hr1]; omega
    have e2 : ((val a / 2 ^ n : Nat) : Int) = (val a : Int) / p := by rw [← hp]; simp
    omega
theorem natural_small_s {a : List Int} {b : Int} {Q : List Int → Int → Prop} (ha : Words a) (la : SM a) (hb0 : 0 < b) (hb1 : b < 4294967296) (h : Q (lim (val a / b.toNat)) ((val a % b.toNat : Nat) : Int)) : natural_small_W a b Q := by
  unfold SM at la
  unfold natural_small_W
  rw [wrap_u64_id (by omega) (by omega)]
  refine ⟨mk_ok (by omega) la, by unfold rng; omega, fun y => ∃ j : Nat, y.2.1 = (j : Int) - 1 ∧ j ≤ a.length ∧ y.2.2.length = a.length ∧ Words y.2.2 ∧ (∀ k, k < j → y.2.2.getD k 0 = 0) ∧ 0 ≤ y.1 ∧ y.1 < b ∧ pv y.2.2 a.length * b + y.1 * 4294967296 ^ j = pv a a.length - pv a j,
    fun y => (y.2.1 + 1).toNat, ⟨a.length, rfl, by omega, by simp [rep'], Words.rep _, fun k hk => ?_, by omega, hb0, ?_⟩, ?_⟩
  · show (List.replicate a.length (0 : Int)).getD k 0 = 0
    rw [List.getD_eq_getElem?_getD, List.getElem?_replicate]; split <;> rfl
  · show pv (List.replicate a.length (0 : Int)) a.length * b + 0 * _ = _
    rw [pv_rep]; simp
  rintro ⟨r, x, out⟩ ⟨j, hx, hj, hlen, hw, hz, hr0, hr1, hpv⟩
  simp only at hx hj hlen hw hz hr0 hr1 hpv
  subst hx
  have hj1 : ((j : Int) - 1).toNat = j - 1 := by omega
  refine condT (fun hc => ⟨⟨by omega, by omega⟩, ?_⟩) (fun hc => ?_)
  · obtain ⟨i, rfl⟩ : ∃ i, j = i + 1 := ⟨j - 1, by omega⟩
    have ei : ((i + 1 : Nat) : Int) - 1 = (i : Int) := by omega
    have h0 := ha i
    have e32 : (2 : Int) ^ Int.toNat 32 = 4294967296 := rfl
    rw [ei, at_nat, e32, wrap_u64_id (by omega) (by omega), wrap_u64_id (by omega) (by omega), or_u64 32 h0.1 h0.2 (by omega) (by show _ % 4294967296 = 0; omega) (by omega)]
    refine letIn ⟨by omega, ⟨by omega, by omega⟩, by omega, by unfold rng; omega, ?_, by dsimp only; omega⟩
    generalize hv : r * 4294967296 + a.getD i 0 = v
    have hv0 : 0 ≤ v := by omega
    rw [Int.tdiv_eq_ediv_of_nonneg hv0, Int.tmod_eq_emod_of_nonneg hv0, set_nat]
    have hq0 : 0 ≤ v / b := Int.ediv_nonneg hv0 (by omega)
    have hq1 : v / b < 4294967296 := by
      rw [Int.ediv_lt_iff_lt_mul hb0, ← hv]
      have : r * 4294967296 ≤ (b - 1) * 4294967296 := Int.mul_le_mul_of_nonneg_right (by omega) (by omega)
      omega
    rw [wrap_u64_id hq0 (by omega), wrap_u32]
    have hqm : v / b % 4294967296 = v / b := by omega
    rw [hqm]
    refine ⟨i, rfl, by omega, by simp [hlen], hw.set _ hq0 hq1, fun k hk => ?_, Int.emod_nonneg _ (by omega), Int.emod_lt_of_pos _ hb0, ?_⟩
    · show (out.set i _).getD k 0 = 0
      rw [getD_set_of_ne (by omega)]; exact hz k (by omega)
    · show pv (out.set i (v / b)) a.length * b + v % b * _ = _
      rw [pv_set_full (by omega) a.length (by omega), hz i (by omega), Int.sub_zero, Int.add_mul]
      rw [pv, Int.pow_succ] at hpv
      have d0 : v = b * (v / b) + v % b := (Int.mul_ediv_add_emod v b).symm
      have s1 : v / b * 4294967296 ^ i * b + v % b * 4294967296 ^ i = v * 4294967296 ^ i := by
        rw [Int.mul_right_comm, ← Int.add_mul, Int.mul_comm (v / b), ← d0]
      have s2 : v * 4294967296 ^ i = r * (4294967296 ^ i * 4294967296) + a.getD i 0 * 4294967296 ^ i := by
        rw [← hv, Int.add_mul, Int.mul_assoc, Int.mul_comm 4294967296]
      omega
  · obtain rfl : j = 0 := by omega
    refine natural_trim_s hw (by unfold SM; omega) ?_
    have a1 := val_pv hw
    have a2 := val_pv ha
    rw [hlen] at a1
    simp only [pv, Int.pow_zero, Int.mul_one, Int.sub_zero] at hpv
    rw [← a1, ← a2] at hpv
    obtain ⟨c, rfl⟩ : ∃ c : Nat, b = c := ⟨b.toNat, by omega⟩
    rw [Int.toNat_natCast] at h
    have hq : val a / c = val out := by
      have : val a = c * val out + r.toNat := by
        have : ((val a : Nat) : Int) = ((c * val out + r.toNat : Nat) : Int) := by
          rw [Int.natCast_add, Int.natCast_mul, Int.mul_comm]; omega
        omega
      rw [this, Nat.add_comm, Nat.add_mul_div_left _ _ (by omega), Nat.div_eq_of_lt (by omega)]; omega
    have hm : val a % c = r.toNat := by
      have : val a = c * val out + r.toNat := by
        have : ((val a : Nat) : Int) = ((c * val out + r.toNat : Nat) : Int) := by
          rw [Int.natCast_add, Int.natCast_mul, Int.mul_comm]; omega
        omega
      rw [this, Nat.add_comm, Nat.add_mul_mod_self_left, Nat.mod_eq_of_lt (by omega)]
    rw [hq, hm] at h
    rw [wrap_u32]
    have e : r % 4294967296 = ((r.toNat : Nat) : Int) := by omega
    rw [e]
    exact h
end Go.Gg
namespace Go.Gg
theorem natural_Of_s {n : Int} {Q : List Int → Prop} (h1 : n ≤ 9223372036854775807) (h : Q (lim n.toNat)) : natural_Of_W n Q := by
  refine condT (fun hc => ?_) (fun hc => ?_)
  · have : n.toNat = 0 := by omega
    rw [this, lim_zero] at h; exact h
  · have e32 : (2 : Int) ^ Int.toNat 32 = 4294967296 := rfl
    rw [e32, wrap_u32, wrap_u32]
    have hw : Words [n % 4294967296, n / 4294967296 % 4294967296] := (Words.nil.cons (by omega) (by omega)).cons (by omega) (by omega)
    refine natural_trim_s hw (by simp [SM]) ?_
    have hv : val [n % 4294967296, n / 4294967296 % 4294967296] = n.toNat := by
      rw [val_cons hw, val_cons hw.tail, val_nil]; omega
    rw [hv]; exact h
theorem blen_word {a : List Int} (ha : Words a) {i : Nat} (hz : ∀ k, i < k → k < a.length → a.getD k 0 = 0) (hi : i < a.length) (hn : a.getD i 0 ≠ 0) : (blen (val a) : Int) = 32 * i + blen (a.getD i 0).toNat := by
  have h0 := ha i
  have a1 := val_pv ha
  rw [pv_zero (j := i + 1) a.length hi (fun k h1 h2 => hz k (by omega) h2), pv] at a1
  obtain ⟨b1, b2⟩ := pv_bound ha i
  obtain ⟨x, hx⟩ : ∃ x : Nat, a.getD i 0 = x := ⟨(a.getD i 0).toNat, by omega⟩
  rw [hx] at a1 hn h0 ⊢
  rw [Int.toNat_natCast]
  have hx0 : x ≠ 0 := by omega
  have c1 := blen_lt (n := x)
  have c2 := blen_le hx0
  have hb : blen x ≠ 0 := by unfold blen; rw [if_neg hx0]; omega
  have ew : ((4294967296 ^ i : Nat) : Int) = (4294967296 : Int) ^ i := by simp
  have e1 : val a = (pv a i).toNat + x * 4294967296 ^ i := by
    have : (val a : Int) = (((pv a i).toNat + x * 4294967296 ^ i : Nat) : Int) := by
      rw [a1, Int.natCast_add, Int.natCast_mul, ew]; omega
    omega
  have hlt : (pv a i).toNat < 4294967296 ^ i := by omega
  have hpw : (4294967296 : Nat) ^ i = 2 ^ (32 * i) := by rw [Nat.pow_mul]
  have : blen (val a) = 32 * i + blen x := by
    refine blen_uniq ?_ (fun _ => ?_)
    · rw [e1, Nat.pow_add, ← hpw]
      have : (x + 1) * 4294967296 ^ i ≤ 2 ^ blen x * 4294967296 ^ i := Nat.mul_le_mul_right _ c1
      rw [Nat.add_mul, Nat.mul_comm (2 ^ blen x)] at this
      omega
    · have e : 32 * i + blen x - 1 = 32 * i + (blen x - 1) := by omega
      rw [e1, e, Nat.pow_add, ← hpw]
      have : 2 ^ (blen x - 1) * 4294967296 ^ i ≤ x * 4294967296 ^ i := Nat.mul_le_mul_right _ c2
      rw [Nat.mul_comm (2 ^ (blen x - 1))] at this
      omega
  omega
theorem natural_Bits_s {a : List Int} {Q : Int → Prop} (ha : Words a) (la : SM a) (h : Q (blen (val a))) : natural_Bits_W a Q := by
  unfold SM at la
  refine ⟨by unfold rng; omega, fun x => ∃ j : Nat, x = (j : Int) - 1 ∧ j ≤ a.length ∧ ∀ k, j ≤ k → k < a.length → a.getD k 0 = 0, fun x => (x + 1).toNat, ⟨a.length, rfl, by omega, fun k h1 h2 => by omega⟩, ?_⟩
  rintro _ ⟨j, rfl, hj, hz⟩
  refine condT (fun hc => ⟨⟨by omega, by omega⟩, ?_⟩) (fun hc => ?_)
  · obtain ⟨i, rfl⟩ : ∃ i, j = i + 1 := ⟨j - 1, by omega⟩
    have ei : ((i + 1 : Nat) : Int) - 1 = (i : Int) := by omega
    rw [ei, at_nat]
    have h0 := ha i
    refine condN (fun hn => ⟨by unfold rng; omega, ⟨by omega, by omega⟩, ?_⟩) (fun he => ⟨by unfold rng; omega, ⟨i, rfl, by omega, fun k h1 h2 => ?_⟩, by dsimp only; omega⟩)
    · have hb := blen_word ha (fun k h1 h2 => hz k (by omega) h2) (by omega) hn
      obtain ⟨x, hx⟩ : ∃ x : Nat, a.getD i 0 = x := ⟨(a.getD i 0).toNat, by omega⟩
      rw [hx] at hb ⊢
      rw [Int.toNat_natCast] at hb
      have h32 := blen_le32 (x := x) (by omega)
      refine len32_s (by omega) ⟨by unfold rng; omega, ?_⟩
      rw [← hb]; exact h
    · by_cases hk : k = i
      · subst hk; exact he
      · exact hz k (by omega) h2
  · obtain rfl : j = 0 := by omega
    have : val a = 0 := by
      have a1 := val_pv ha
      rw [pv_zero (j := 0) a.length (by omega) (fun k h1 h2 => hz k h1 h2)] at a1
      simp only [pv] at a1; omega
    rw [this, blen_zero] at h
    exact h
theorem getD_drop {l : List Int} {j i : Nat} : (l.drop j).getD i 0 = l.getD (j + i) 0 := by
  rw [List.getD_eq_getElem?_getD, List.getD_eq_getElem?_getD, List.getElem?_drop]
theorem pv_drop_set {l : List Int} {o i : Nat} {x : Int} (h : o + i < l.length) : pv ((l.set (o + i) x).drop o) (i + 1) = pv (l.drop o) i + x * 4294967296 ^ i := by
  rw [pv, getD_drop, getD_set_self h]
  congr 1
  exact pv_congr i (fun k hk => by rw [getD_drop, getD_drop, getD_set_of_ne (by omega)])
/-- The part of the row from 'o' on, 'n' words, less g times v; whether that is below 0. -/
theorem natural_take_s {u v : List Int} {o n : Nat} {g : Int} {Q : List Int → Bool → Prop} (hu : Words u) (hv : Words v) (lu : SM u) (ho : o + n ≤ u.length) (hn : v.length < n) (hg0 : 0 ≤ g) (hg1 : g < 4294967296)
    (h : ∀ (w : List Int) (b : Int), Words w → w.length = u.length → (∀ k, k < o ∨ o + n ≤ k → w.getD k 0 = u.getD k 0) → (b = 0 ∨ b = 1) → pv (w.drop o) n = pv (u.drop o) n - g * val v + b * 4294967296 ^ n → Q w (b == 1)) :
    natural_take_W u o n v g Q := by
  unfold SM at lu
  refine ⟨fun y => ∃ i : Nat, y.2.2.1 = i ∧ i ≤ n ∧ y.2.2.2.length = u.length ∧ Words y.2.2.2 ∧ (∀ k, k < o ∨ o + i ≤ k → y.2.2.2.getD k 0 = u.getD k 0) ∧ 0 ≤ y.1 ∧ y.1 < 4294967296 ∧ 0 ≤ y.2.1 ∧ y.2.1 ≤ 1 ∧ 0 ≤ g * pv v i - y.1 * 4294967296 ^ i ∧ g * pv v i - y.1 * 4294967296 ^ i < 4294967296 ^ i ∧
      pv (y.2.2.2.drop o) i = pv (u.drop o) i - (g * pv v i - y.1 * 4294967296 ^ i) + y.2.1 * 4294967296 ^ i, fun y => n - y.2.2.1.toNat,
    ⟨0, rfl, by omega, rfl, hu, fun _ _ => rfl, Int.le_refl 0, by show (0 : Int) < 4294967296; omega, Int.le_refl 0, by show (0 : Int) ≤ 1; omega, by simp [pv], by simp [pv], by simp [pv]⟩, ?_⟩
  rintro ⟨c, b, x, w⟩ ⟨i, hx, hi, hlen, hw, hz, hc0, hc1, hb0, hb1, hl0, hl1, hpv⟩
  simp only at hx hi hlen hw hz hc0 hc1 hb0 hb1 hl0 hl1 hpv
  subst hx
  have hvi := hv i
  have hwi := hw (o + i)
  have eoi : (o : Int) + (i : Int) = ((o + i : Nat) : Int) := by omega
  refine condT (fun hlt => natural_word_s hv ?_) (fun hge => ?_)
  · have hm0 : 0 ≤ g * v.getD i 0 := Int.mul_nonneg hg0 hvi.1
    have hm1 : g * v.getD i 0 ≤ 4294967295 * 4294967295 := Int.mul_le_mul (by omega) (by omega) hvi.1 (by omega)
    rw [wrap_u64_id hm0 (by omega), wrap_u64_id (by omega) (by omega)]
    refine letIn ⟨⟨by omega, hlt⟩, by omega, ?_⟩
    rw [eoi, at_nat]
    generalize hc' : c + g * v.getD i 0 = d at *
    rw [wrap_u64_id hwi.1 (by omega), wrap_u32, wrap_u64_id (m := d % 4294967296) (by omega) (by omega)]
    obtain ⟨q1, q2, q3⟩ := sub_step (w.getD (o + i) 0) (d % 4294967296) b hwi (by omega) ⟨hb0, hb1⟩
    refine letIn ⟨⟨by omega, hlt⟩, by omega, by unfold rng; omega, ?_, by dsimp only; omega⟩
    generalize IntKind.u64.wrap (IntKind.u64.wrap (w.getD (o + i) 0 - d % 4294967296) - b) = e at *
    have e63 : e / 2 ^ Int.toNat 63 = e / 9223372036854775808 := rfl
    have e32 : d / 2 ^ Int.toNat 32 = d / 4294967296 := rfl
    rw [e63, e32, set_nat, wrap_u32]
    have hP := pow_pos_w i
    have p1 : pv (u.drop o) (i + 1) = pv (u.drop o) i + w.getD (o + i) 0 * 4294967296 ^ i := by rw [pv, getD_drop, hz (o + i) (by omega)]
    have p2 : g * pv v (i + 1) = g * pv v i + g * v.getD i 0 * 4294967296 ^ i := by rw [pv, Int.mul_add, Int.mul_assoc]
    have p3 := Int.pow_succ (4294967296 : Int) i
    have p0 := pv_drop_set (l := w) (o := o) (i := i) (x := e % 4294967296) (by omega)
    generalize (4294967296 : Int) ^ i = P at *
    have s1 := split_w d P
    have s3 : d * P = c * P + g * v.getD i 0 * P := by rw [← hc', Int.add_mul]
    have s5 : d % 4294967296 * P ≤ 4294967295 * P := Int.mul_le_mul_of_nonneg_right (by omega) (by omega)
    have s6 : 0 ≤ d % 4294967296 * P := Int.mul_nonneg (by omega) (by omega)
    refine ⟨i + 1, rfl, by omega, by simp [hlen], hw.set _ (by omega) (by omega), fun k hk => ?_, by show 0 ≤ d / 4294967296; omega, by show d / 4294967296 < 4294967296; omega, q2, q3, ?_, ?_, ?_⟩
    · show (w.set (o + i) _).getD k 0 = _
      rw [getD_set_of_ne (by omega)]; exact hz k (by omega)
    · show 0 ≤ g * pv v (i + 1) - d / 4294967296 * 4294967296 ^ (i + 1)
      rw [p2, p3]; omega
    · show g * pv v (i + 1) - d / 4294967296 * 4294967296 ^ (i + 1) < 4294967296 ^ (i + 1)
      rw [p2, p3]; omega
    · show pv ((w.set (o + i) (e % 4294967296)).drop o) (i + 1) = pv (u.drop o) (i + 1) - (g * pv v (i + 1) - d / 4294967296 * 4294967296 ^ (i + 1)) + e / 9223372036854775808 * 4294967296 ^ (i + 1)
      rw [p0, hpv, p1, p2, p3]
      have s0 : e % 4294967296 = w.getD (o + i) 0 - d % 4294967296 - b + 4294967296 * (e / 9223372036854775808) := by omega
      rw [s0]
      generalize e / 9223372036854775808 = b' at *
      have s4 : (w.getD (o + i) 0 - d % 4294967296 - b + 4294967296 * b') * P = w.getD (o + i) 0 * P - d % 4294967296 * P - b * P + b' * (P * 4294967296) := by
        rw [Int.add_mul, Int.sub_mul, Int.sub_mul, Int.mul_comm 4294967296 b', Int.mul_assoc b', Int.mul_comm 4294967296 P]
      rw [s4]
      generalize d / 4294967296 = d' at *
      generalize d % 4294967296 = d'' at *
      clear q1 q2 q3 s0 s4 s5 s6 hpv
      omega
  · obtain rfl : i = n := by omega
    refine h w b hw hlen hz (by omega) ?_
    have a1 := val_pv' hv (i := i) (by omega)
    have hc : c = 0 := by
      -- g v < 2^(32 n), for v has fewer than n words
      have hv1 := val_pv' hv (i := i - 1) (by omega)
      have hb' := (pv_bound hv (i - 1)).2
      have hw0 := pv_bound hw 0
      obtain ⟨m, rfl⟩ : ∃ m, i = m + 1 := ⟨i - 1, by omega⟩
      rw [Nat.add_sub_cancel] at hv1 hb'
      have hP := pow_pos_w m
      rw [Int.pow_succ] at hpv
      have hgv : g * pv v (m + 1) ≤ 4294967295 * (4294967296 ^ m - 1) := by
        rw [← a1, hv1]
        exact Int.mul_le_mul (by omega) (by omega) (pv_bound hv m).1 (by omega)
      rw [Int.pow_succ] at hl0
      generalize (4294967296 : Int) ^ m = P at *
      rcases Int.lt_or_le 0 c with hc | hc
      · have : 1 * (P * 4294967296) ≤ c * (P * 4294967296) := Int.mul_le_mul_of_nonneg_right (by omega) (by omega)
        omega
      · omega
    subst hc
    rw [a1]
    rw [hpv]; omega
theorem natural_give_s {u v : List Int} {o n : Nat} {Q : List Int → Prop} (hu : Words u) (hv : Words v) (lu : SM u) (ho : o + n ≤ u.length) (hn : v.length ≤ n)
    (h : ∀ (w : List Int) (c : Int), Words w → w.length = u.length → (∀ k, k < o ∨ o + n ≤ k → w.getD k 0 = u.getD k 0) → (c = 0 ∨ c = 1) → pv (w.drop o) n + c * 4294967296 ^ n = pv (u.drop o) n + val v → Q w) :
    natural_give_W u o n v Q := by
  unfold SM at lu
  refine ⟨fun y => ∃ i : Nat, y.2.1 = i ∧ i ≤ n ∧ y.2.2.length = u.length ∧ Words y.2.2 ∧ (∀ k, k < o ∨ o + i ≤ k → y.2.2.getD k 0 = u.getD k 0) ∧ 0 ≤ y.1 ∧ y.1 ≤ 1 ∧
      pv (y.2.2.drop o) i + y.1 * 4294967296 ^ i = pv (u.drop o) i + pv v i, fun y => n - y.2.1.toNat,
    ⟨0, rfl, by omega, rfl, hu, fun _ _ => rfl, Int.le_refl 0, by show (0 : Int) ≤ 1; omega, by simp [pv]⟩, ?_⟩
  rintro ⟨c, x, w⟩ ⟨i, hx, hi, hlen, hw, hz, hc0, hc1, hpv⟩
  simp only at hx hi hlen hw hz hc0 hc1 hpv
  subst hx
  have hvi := hv i
  have hwi := hw (o + i)
  have eoi : (o : Int) + (i : Int) = ((o + i : Nat) : Int) := by omega
  refine condT (fun hlt => ⟨⟨by omega, hlt⟩, by omega, v.getD i 0, natural_word_s hv rfl, ⟨by omega, hlt⟩, by omega, ?_⟩) (fun hge => ?_)
  · rw [eoi, at_nat, wrap_u64_id hwi.1 (by omega), wrap_u64_id (m := w.getD (o + i) 0 + v.getD i 0) (by omega) (by omega), wrap_u64_id (by omega) (by omega)]
    refine letIn ⟨by unfold rng; omega, ?_, by dsimp only; omega⟩
    have e32 : ∀ d : Int, d / 2 ^ Int.toNat 32 = d / 4294967296 := fun _ => rfl
    rw [e32, set_nat, wrap_u32]
    generalize hd : c + (w.getD (o + i) 0 + v.getD i 0) = d
    refine ⟨i + 1, rfl, by omega, by simp [hlen], hw.set _ (by omega) (by omega), fun k hk => ?_, by show 0 ≤ d / 4294967296; omega, by show d / 4294967296 ≤ 1; omega, ?_⟩
    · show (w.set (o + i) _).getD k 0 = _
      rw [getD_set_of_ne (by omega)]; exact hz k (by omega)
    · show pv ((w.set (o + i) (d % 4294967296)).drop o) (i + 1) + d / 4294967296 * 4294967296 ^ (i + 1) = pv (u.drop o) (i + 1) + pv v (i + 1)
      have p0 := pv_drop_set (l := w) (o := o) (i := i) (x := d % 4294967296) (by omega)
      have p1 : pv (u.drop o) (i + 1) = pv (u.drop o) i + w.getD (o + i) 0 * 4294967296 ^ i := by rw [pv, getD_drop, hz (o + i) (by omega)]
      have p2 : pv v (i + 1) = pv v i + v.getD i 0 * 4294967296 ^ i := by rw [pv]
      rw [p0, p1, p2, Int.pow_succ]
      have s1 := split_w d (4294967296 ^ i)
      have s3 : d * 4294967296 ^ i = c * 4294967296 ^ i + (w.getD (o + i) 0 * 4294967296 ^ i + v.getD i 0 * 4294967296 ^ i) := by rw [← hd, Int.add_mul, Int.add_mul]
      omega
  · obtain rfl : i = n := by omega
    have a1 := val_pv' hv (i := i) (by omega)
    exact h w c hw hlen hz (by omega) (by rw [a1]; exact hpv)
end Go.Gg
namespace Go.Gg
theorem pow2_split {a b c : Nat} (h : a + b = c) : (2 : Int) ^ a * 2 ^ b = 2 ^ c := by rw [← Int.pow_add, h]
theorem knuth_up {V P B top nx vl head th pl g : Int} (hV : V = (top * 4294967296 + nx) * B + vl) (hvl : 0 ≤ vl) (hP : P = (head * 4294967296 + th) * B + pl) (hpl : pl < B) (hB : 0 < B) (hg : 0 ≤ g)
    (h : head * 4294967296 + th < g * (top * 4294967296 + nx)) : P < g * V := by
  have h1 : (head * 4294967296 + th + 1) * B ≤ g * (top * 4294967296 + nx) * B := Int.mul_le_mul_of_nonneg_right (by omega) (by omega)
  have h2 : 0 ≤ g * vl := Int.mul_nonneg hg hvl
  rw [hV, Int.mul_add, ← Int.mul_assoc]
  rw [Int.add_mul] at h1
  omega
theorem knuth_lo {V P B top nx vl head th pl g : Int} (hV : V = (top * 4294967296 + nx) * B + vl) (hvl0 : 0 ≤ vl) (hvl : vl < B) (hP : P = (head * 4294967296 + th) * B + pl) (hpl : 0 ≤ pl) (hg0 : 0 ≤ g) (hg : g < 4294967296) (hVB : 4294967296 * B ≤ V)
    (h : g * (top * 4294967296 + nx) ≤ head * 4294967296 + th) : (g - 1) * V ≤ P := by
  have h1 : g * (top * 4294967296 + nx) * B ≤ (head * 4294967296 + th) * B := Int.mul_le_mul_of_nonneg_right h (by omega)
  have h2 : g * vl ≤ 4294967296 * B := Int.mul_le_mul (by omega) (by omega) hvl0 (by omega)
  rw [Int.sub_mul, hV, Int.mul_add, ← Int.mul_assoc]
  rw [← hV]
  omega
theorem pv_split {l : List Int} {i : Nat} : ∀ n, pv l (i + n) = pv l i + pv (l.drop i) n * 4294967296 ^ i
  | 0 => by simp [pv]
  | n + 1 => by
    rw [← Nat.add_assoc, pv, pv_split n, pv, getD_drop, Int.add_mul, Int.pow_add, Int.mul_assoc (l.getD (i + n) 0), Int.mul_comm (4294967296 ^ n)]
    omega
theorem pv_part {l m : List Int} {i n : Nat} (h : ∀ k, k < i ∨ i + n ≤ k → l.getD k 0 = m.getD k 0) : ∀ M, i + n ≤ M → pv l M - pv m M = (pv (l.drop i) n - pv (m.drop i) n) * 4294967296 ^ i
  | 0, hM => by
    have h1 : i = 0 := by omega
    have h2 : n = 0 := by omega
    subst h1 h2
    simp [pv]
  | M + 1, hM => by
    by_cases he : i + n = M + 1
    · rw [← he, pv_split, pv_split, pv_congr i (fun k hk => h k (.inl hk)), Int.sub_mul]; omega
    · rw [pv, pv, h M (.inr (by omega))]
      have := pv_part h M (by omega)
      omega
theorem lim_top {n : Nat} (h : n ≠ 0) : (lim n).getD ((lim n).length - 1) 0 ≠ 0 := by
  induction n using Nat.strongRecOn with
  | _ n ih =>
    rw [lim_pos (by omega)]
    simp only [List.length_cons, Nat.add_sub_cancel]
    by_cases h0 : n / 4294967296 = 0
    · rw [h0, lim_zero]; simp; omega
    · have h1 := ih _ (Nat.div_lt_self (by omega) (by omega)) h0
      have h2 : (lim (n / 4294967296)).length ≠ 0 := by rw [lim_pos (by omega)]; simp
      obtain ⟨k, hk⟩ : ∃ k, (lim (n / 4294967296)).length = k + 1 := ⟨_, (Nat.succ_pred_eq_of_ne_zero h2).symm⟩
      rw [hk] at h1 ⊢
      simpa using h1
/-- The estimate of a digit. -/
theorem guess_loop {top nx hd1 hd2 th V P B vl pl : Int} {next3 : Int → Prop} {G1 G2 G3 : Prop} (hG1 : G1) (hG2 : G2) (hG3 : G3) (htop0 : 2147483648 ≤ top) (htop : top < 4294967296) (hnx : 0 ≤ nx ∧ nx < 4294967296) (h1 : 0 ≤ hd1 ∧ hd1 ≤ top) (h2 : 0 ≤ hd2 ∧ hd2 < 4294967296) (h3 : 0 ≤ th ∧ th < 4294967296)
    (hV : V = (top * 4294967296 + nx) * B + vl) (hvl : 0 ≤ vl ∧ vl < B) (hP : P = ((hd1 * 4294967296 + hd2) * 4294967296 + th) * B + pl) (hpl : 0 ≤ pl ∧ pl < B) (hB : 0 < B) (hPV : P < V * 4294967296)
    (hn : ∀ g, 0 ≤ g → g < 4294967296 → P < (g + 1) * V → (g - 1) * V ≤ P → next3 g) :
    loopW (σ := Int × Int) (IntKind.u64.wrap (Int.tdiv (hd1 * 4294967296 + hd2) top), Int.tmod (hd1 * 4294967296 + hd2) top) fun ⟨guess2, rest⟩ next4 =>
      joinW (α := Unit) (fun next5 => condW (decide (4294967296 ≤ guess2)) (next5 ()) (G1 ∧ G2 ∧ G3 ∧ condW (decide (bits .or .u64 (IntKind.u64.wrap (rest * 4294967296)) th < IntKind.u64.wrap (guess2 * nx))) (next5 ()) (next3 guess2)))
        fun _ => setW (IntKind.u64.wrap (rest + top)) fun rest1 => condW (decide (4294967296 ≤ rest1)) (next3 (IntKind.u64.wrap (guess2 - 1))) (next4 (IntKind.u64.wrap (guess2 - 1), rest1)) := by
  have hhd0 : 0 ≤ hd1 * 4294967296 + hd2 := by omega
  have hVB : 4294967296 * B ≤ V := by
    have : 4294967296 * B ≤ (top * 4294967296 + nx) * B := Int.mul_le_mul_of_nonneg_right (by omega) (by omega)
    omega
  generalize hhd : hd1 * 4294967296 + hd2 = head at *
  have hhead : head ≤ top * 4294967296 + 4294967295 := by omega
  have hq0 : 0 ≤ head / top := Int.ediv_nonneg hhd0 (by omega)
  have hr0 : 0 ≤ head % top := Int.emod_nonneg _ (by omega)
  have hr1 : head % top < top := Int.emod_lt_of_pos _ (by omega)
  have hde : head = top * (head / top) + head % top := (Int.mul_ediv_add_emod head top).symm
  have hqu : head / top < 4294967298 := by
    rw [Int.ediv_lt_iff_lt_mul (by omega)]; omega
  rw [Int.tdiv_eq_ediv_of_nonneg hhd0, Int.tmod_eq_emod_of_nonneg hhd0, wrap_u64_id hq0 (by omega)]
  refine ⟨fun y => 0 ≤ y.1 ∧ y.1 < 4294967298 ∧ 0 ≤ y.2 ∧ y.2 < 4294967296 ∧ head = y.1 * top + y.2 ∧ P < (y.1 + 1) * V, fun y => y.1.toNat, ⟨hq0, hqu, hr0, by show head % top < _; omega, by show head = head / top * top + head % top; rw [Int.mul_comm]; exact hde, ?_⟩, ?_⟩
  · show P < (head / top + 1) * V
    refine knuth_up hV hvl.1 hP hpl.2 hB (by omega) ?_
    -- head < (q + 1) top
    have a1 : (head / top + 1) * top = top * (head / top) + top := by rw [Int.add_mul, Int.mul_comm]; omega
    have a2 : (head / top + 1) * (top * 4294967296 + nx) = (head / top + 1) * top * 4294967296 + (head / top + 1) * nx := by rw [Int.mul_add, Int.mul_assoc]
    have a3 : 0 ≤ (head / top + 1) * nx := Int.mul_nonneg (by omega) hnx.1
    omega
  rintro ⟨g, r⟩ ⟨hg0, hg1, hr0, hr1, hh, hU⟩
  simp only at hg0 hg1 hr0 hr1 hh hU
  have hexp : g * (top * 4294967296 + nx) = (g * top) * 4294967296 + g * nx := by rw [Int.mul_add, Int.mul_assoc]
  refine ⟨fun _ => P < g * V, condT (fun hc => ?_) (fun hc => ⟨hG1, hG2, hG3, ?_⟩), fun _ hlt => ?_⟩
  · have : V * 4294967296 ≤ g * V := by rw [Int.mul_comm V]; exact Int.mul_le_mul_of_nonneg_right hc (by omega)
    omega
  · have hgn0 : 0 ≤ g * nx := Int.mul_nonneg hg0 hnx.1
    have hgn1 : g * nx ≤ 4294967295 * 4294967295 := Int.mul_le_mul (by omega) (by omega) hnx.1 (by omega)
    rw [wrap_u64_id (m := r * 4294967296) (by omega) (by omega), wrap_u64_id hgn0 (by omega), or_u64 32 h3.1 h3.2 (by omega) (by show _ % 4294967296 = 0; omega) (by omega)]
    refine condT (fun hgt => ?_) (fun hle => ?_)
    · exact knuth_up hV hvl.1 hP hpl.2 hB hg0 (by omega)
    · exact hn g hg0 (by omega) hU (knuth_lo hV hvl.1 hvl.2 hP hpl.1 hg0 (by omega) hVB (by omega))
  · have hg1' : 1 ≤ g := by
      rcases Int.lt_or_le g 1 with h | h
      · have : g = 0 := by omega
        subst this
        have hP0 : 0 ≤ P := by
          rw [hP]
          have : 0 ≤ (head * 4294967296 + th) * B := Int.mul_nonneg (by omega) (by omega)
          omega
        simp at hlt; omega
      · exact h
    rw [wrap_u64_id (m := r + top) (by omega) (by omega), wrap_u64_id (m := g - 1) (by omega) (by omega)]
    have hsub : (g - 1) * top = g * top - top := by rw [Int.sub_mul]; omega
    have hexp2 : (g - 1) * (top * 4294967296 + nx) = ((g - 1) * top) * 4294967296 + (g - 1) * nx := by rw [Int.mul_add, Int.mul_assoc]
    refine letIn (condT (fun hc => ?_) (fun hc => ⟨⟨by show 0 ≤ g - 1; omega, by show g - 1 < _; omega, by show 0 ≤ r + top; omega, by show r + top < _; omega, by show head = (g - 1) * top + (r + top); omega, by show P < (g - 1 + 1) * V; rw [Int.sub_add_cancel]; exact hlt⟩, by show (g - 1).toNat < g.toNat; omega⟩))
    have hgW : g - 1 < 4294967296 := by
      rcases Int.lt_or_le (g - 1) 4294967296 with h | h
      · exact h
      · have : 4294967296 * top ≤ (g - 1) * top := Int.mul_le_mul_of_nonneg_right h (by omega)
        omega
    have hgn1 : (g - 1) * nx ≤ 4294967295 * 4294967295 := Int.mul_le_mul (by omega) (by omega) hnx.1 (by omega)
    refine hn (g - 1) (by omega) hgW (by rw [Int.sub_add_cancel]; exact hlt) (knuth_lo hV hvl.1 hvl.2 hP hpl.1 (by omega) hgW hVB (by omega))
set_option maxHeartbeats 2000000 in
theorem natural_Div_s {a b : List Int} {Q : List Int → List Int → Option Int → Prop} (ha : Words a) (hb : Words b) (la : a.length ≤ 1099511627774) (lb : b.length ≤ 1099511627774)
    (h0 : val b = 0 → Q [] [] (some 8)) (h : val b ≠ 0 → Q (lim (val a / val b)) (lim (val a % val b)) none) : natural_Div_W a b Q := by
  refine natural_trim_s ha (by unfold SM; omega) (natural_trim_s hb (by unfold SM; omega) ?_)
  have b1 := lim_len_le ha
  have b2 := lim_len_le hb
  have w1 := lim_words (val a)
  have w2 := lim_words (val b)
  have v1 := val_lim (val a)
  have v2 := val_lim (val b)
  refine condE (fun hc => ?_) (fun hc => ?_)
  · have : (lim (val b)).length = 0 := by omega
    have : lim (val b) = [] := List.eq_nil_of_length_eq_zero this
    rw [this, val_nil] at v2
    exact h0 v2.symm
  have hB : val b ≠ 0 := by intro hh; rw [hh, lim_zero] at hc; exact hc rfl
  replace h := h hB
  clear h0
  refine natural_Cmp_s w1 w2 (by unfold SM; omega) (by unfold SM; omega) ?_
  rw [v1, v2]
  refine condT (fun hlt => ?_) (fun hge => condE (fun h1 => ?_) (fun h1 => ?_))
  · have := cmpv_lt.1 hlt
    rw [Nat.div_eq_of_lt this, Nat.mod_eq_of_lt this, lim_zero] at h
    exact h
  · -- one word
    have hl1 : (lim (val b)).length = 1 := by omega
    have hw0 := w2 0
    have hbv : (val b : Int) = (lim (val b)).getD 0 0 := by
      have := val_pv w2
      rw [v2, hl1] at this
      simpa [pv] using this
    refine ⟨⟨by omega, by omega⟩, ?_⟩
    have e0 : at' (lim (val b)) 0 = (val b : Int) := by rw [hbv]; rfl
    rw [e0]
    have hm : val a % val b < val b := Nat.mod_lt _ (by omega)
    refine natural_small_s w1 (by unfold SM; omega) (by omega) (by omega) ?_
    rw [v1, Int.toNat_natCast, rng_wrap (by unfold rng; omega)]
    refine natural_Of_s (by omega) ?_
    rw [Int.toNat_natCast]
    exact h
  -- long division
  obtain ⟨m, hm⟩ : ∃ m, (lim (val b)).length = m + 2 := ⟨(lim (val b)).length - 2, by omega⟩
  have hge' : val b ≤ val a := by
    rcases Nat.lt_or_ge (val a) (val b) with hh | hh
    · exact absurd (cmpv_lt.2 hh) hge
    · exact hh
  have hlen : m + 2 ≤ (lim (val a)).length := by rw [← hm]; exact lim_len_mono hge'
  generalize hA : val a = A at *
  generalize hBv : val b = B at *
  have htop := lim_top hB
  have hbd : (val (lim B) : Int) = _ := val_pv w2
  rw [v2] at hbd
  have hAp : (A : Int) < 4294967296 ^ (lim A).length := by
    have := (pv_bound w1 (lim A).length).2
    have e := val_pv w1
    rw [v1] at e; omega
  generalize hla : lim A = al at *
  generalize hlb : lim B = bl at *
  rw [hm] at htop hbd
  have e21 : m + 2 - 1 = m + 1 := by omega
  rw [e21] at htop
  have hwt := w2 (m + 1)
  have hml : (bl.length : Int) - 1 = ((m + 1 : Nat) : Int) := by omega
  rw [hml]
  obtain ⟨tp, htp⟩ : ∃ x : Nat, bl.getD (m + 1) 0 = x := ⟨(bl.getD (m + 1) 0).toNat, by omega⟩
  refine ⟨by unfold rng; omega, ⟨by omega, by omega⟩, ?_⟩
  rw [at_nat, htp]
  rw [htp] at htop hwt
  have htp0 : tp ≠ 0 := by omega
  have c1 := blen_lt (n := tp)
  have c2 := blen_le htp0
  have c3 := blen_le32 (x := tp) (by omega)
  have c4 : blen tp ≠ 0 := by unfold blen; rw [if_neg htp0]; omega
  refine lz32_s (by omega) ?_
  obtain ⟨s, hs⟩ : ∃ s, 32 - blen tp = s := ⟨_, rfl⟩
  rw [hs]
  have hs31 : s ≤ 31 := by omega
  -- the divisor, shifted
  refine natural_left_s w2 (by omega) (by omega) (fun r4 hr4 hr4l hr4v => ?_)
  rw [hm] at hr4l
  rw [v2] at hr4v
  refine ⟨⟨by omega, by omega, by omega⟩, letIn ?_⟩
  have hvl : (sub' r4 0 (bl.length : Int)) = r4.take (m + 2) := by
    show (r4.drop 0).take (((bl.length : Nat) : Int).toNat - 0) = _
    rw [Int.toNat_natCast, hm]; rfl
  rw [hvl]
  have hvlen : (r4.take (m + 2)).length = m + 2 := by rw [List.length_take, hr4l]; omega
  -- B 2^s lies from 2^(32 (m+2)) / 2 to 2^(32 (m+2))
  have hPm := pow_pos_w m
  have ew : (4294967296 : Int) ^ (m + 2) = 4294967296 ^ m * 4294967296 * 4294967296 := by rw [Int.pow_succ, Int.pow_succ]
  have ew1 : (4294967296 : Int) ^ (m + 1) = 4294967296 ^ m * 4294967296 := Int.pow_succ ..
  have hbd2 : (B : Int) = pv bl m + bl.getD m 0 * 4294967296 ^ m + tp * (4294967296 ^ m * 4294967296) := by rw [hbd, pv, pv, htp, ew1]
  have hbm := pv_bound w2 m
  have hbm1 := w2 m
  have hlow : bl.getD m 0 * 4294967296 ^ m ≤ 4294967295 * 4294967296 ^ m := Int.mul_le_mul_of_nonneg_right (by omega) (by omega)
  have hlow0 : 0 ≤ bl.getD m 0 * 4294967296 ^ m := Int.mul_nonneg hbm1.1 (by omega)
  have hps := pow2_pos s
  have hts : (tp : Int) * 2 ^ s < 4294967296 ∧ 2147483648 ≤ (tp : Int) * 2 ^ s := by
    have e1 : (2 : Int) ^ (blen tp) * 2 ^ s = 4294967296 := pow2_split (c := 32) (by omega)
    have e2 : (2 : Int) ^ (blen tp - 1) * 2 ^ s = 2147483648 := pow2_split (c := 31) (by omega)
    have f1 : (tp : Int) + 1 ≤ 2 ^ (blen tp) := by exact_mod_cast c1
    have f2 : (2 : Int) ^ (blen tp - 1) ≤ tp := by exact_mod_cast c2
    have g1 : ((tp : Int) + 1) * 2 ^ s ≤ 2 ^ (blen tp) * 2 ^ s := Int.mul_le_mul_of_nonneg_right f1 (by omega)
    have g2 : (2 : Int) ^ (blen tp - 1) * 2 ^ s ≤ tp * 2 ^ s := Int.mul_le_mul_of_nonneg_right f2 (by omega)
    rw [Int.add_mul] at g1
    omega
  have hVval : ((val r4 : Nat) : Int) = (B : Int) * 2 ^ s := by rw [hr4v]; simp
  have hr4p := val_pv hr4
  rw [hr4l] at hr4p
  have hVlt : (val r4 : Int) < 4294967296 ^ (m + 2) := by
    -- (tp + 1) 2^s W^(m+1) <= W^(m+2)
    have k1 : (B : Int) + 1 ≤ (tp + 1) * (4294967296 ^ m * 4294967296) := by rw [Int.add_mul]; omega
    have k2 : ((B : Int) + 1) * 2 ^ s ≤ ((tp + 1) * (4294967296 ^ m * 4294967296)) * 2 ^ s := Int.mul_le_mul_of_nonneg_right k1 (by omega)
    have k3 : (((tp : Int) + 1) * 2 ^ s) ≤ 4294967296 := by
      have f1 : (tp : Int) + 1 ≤ 2 ^ (blen tp) := by exact_mod_cast c1
      have e1 : (2 : Int) ^ (blen tp) * 2 ^ s = 4294967296 := pow2_split (c := 32) (by omega)
      have g1 : ((tp : Int) + 1) * 2 ^ s ≤ 2 ^ (blen tp) * 2 ^ s := Int.mul_le_mul_of_nonneg_right f1 (by omega)
      omega
    have k4 : (((tp : Int) + 1) * 2 ^ s) * (4294967296 ^ m * 4294967296) ≤ 4294967296 * (4294967296 ^ m * 4294967296) := Int.mul_le_mul_of_nonneg_right k3 (by omega)
    rw [Int.mul_right_comm] at k2
    rw [Int.add_mul] at k2
    rw [hVval, ew]
    omega
  have hVge : 2147483648 * (4294967296 ^ m * 4294967296) ≤ (val r4 : Int) := by
    have k1 : (tp : Int) * (4294967296 ^ m * 4294967296) ≤ B := by omega
    have k2 : (tp : Int) * (4294967296 ^ m * 4294967296) * 2 ^ s ≤ B * 2 ^ s := Int.mul_le_mul_of_nonneg_right k1 (by omega)
    have k3 : 2147483648 * (4294967296 ^ m * 4294967296) ≤ (tp : Int) * 2 ^ s * (4294967296 ^ m * 4294967296) := Int.mul_le_mul_of_nonneg_right hts.2 (by omega)
    rw [Int.mul_right_comm] at k2
    omega
  -- the highest word of the shifted divisor is zero
  have hVp : (val r4 : Int) = pv (r4.take (m + 2)) (m + 2) := by
    rw [hr4p] at hVlt ⊢
    rw [pv_take (Nat.le_refl _)]
    exact pv_high hr4 (by omega) hVlt
  have hwv : Words (r4.take (m + 2)) := hr4.take _
  have hvv : val (r4.take (m + 2)) = val r4 := by
    have := val_pv hwv
    rw [hvlen, ← hVp] at this; omega
  generalize hv : r4.take (m + 2) = v at *
  generalize hVV : val r4 = V at *
  clear hr4 hr4l hr4p hvl
  -- the dividend, shifted
  refine natural_left_s w1 (by omega) (by omega) (fun u hu hul huv => ?_)
  rw [v1] at huv
  have hvl1 : (v.length : Int) - 1 = ((m + 1 : Nat) : Int) := by omega
  have hvl2 : (v.length : Int) - 2 = (m : Int) := by omega
  obtain ⟨K, hK⟩ : ∃ K, al.length = K + (m + 2) := ⟨al.length - (m + 2), by omega⟩
  have hkl : (u.length : Int) - (v.length : Int) = ((K + 1 : Nat) : Int) := by omega
  rw [hvl1, hvl2, hkl]
  refine ⟨by unfold rng; omega, ⟨by omega, by omega⟩, by unfold rng; omega, ⟨by omega, by omega⟩, by unfold rng; omega, mk_ok (by omega) (by omega), by unfold rng; omega, letIn ?_⟩
  rw [Int.toNat_natCast]
  have hU : (val u : Int) < V * 4294967296 ^ (K + 1) := by
    have k0 : ((val u : Nat) : Int) = (A : Int) * 2 ^ s := by rw [huv]; simp
    have k1 : (2 : Int) ^ s ≤ 2147483648 := by
      have : (2 : Int) ^ s * 2 ^ (31 - s) = 2147483648 := pow2_split (c := 31) (by omega)
      have h2 := pow2_pos (31 - s)
      have : (2 : Int) ^ s * 1 ≤ 2 ^ s * 2 ^ (31 - s) := Int.mul_le_mul_of_nonneg_left (by omega) (by omega)
      omega
    have k2 : (A : Int) * 2 ^ s < 4294967296 ^ al.length * 2 ^ s := Int.mul_lt_mul_of_pos_right hAp hps
    have k3 : (4294967296 : Int) ^ al.length * 2 ^ s ≤ 4294967296 ^ al.length * 2147483648 := Int.mul_le_mul_of_nonneg_left k1 (by have := pow_pos_w al.length; omega)
    have k4 : (4294967296 : Int) ^ al.length = 4294967296 ^ m * 4294967296 * 4294967296 ^ (K + 1) := by
      rw [hK, ← Int.pow_succ, ← Int.pow_add]; congr 1; omega
    rw [k4] at k2 k3
    have k6 : (2147483648 : Int) * (4294967296 ^ m * 4294967296 * 4294967296 ^ (K + 1)) = 4294967296 ^ m * 4294967296 * 4294967296 ^ (K + 1) * 2147483648 := Int.mul_comm _ _
    have k7 : (2147483648 : Int) * (4294967296 ^ m * 4294967296) * 4294967296 ^ (K + 1) = 2147483648 * (4294967296 ^ m * 4294967296 * 4294967296 ^ (K + 1)) := Int.mul_assoc ..
    have hPK := pow_pos_w (K + 1)
    have k8 : (2147483648 : Int) * (4294967296 ^ m * 4294967296) * 4294967296 ^ (K + 1) ≤ (V : Int) * 4294967296 ^ (K + 1) := Int.mul_le_mul_of_nonneg_right hVge (Int.le_of_lt hPK)
    omega
  have hup := val_pv hu
  have hulk : u.length = K + m + 3 := by omega
  rw [hulk] at hup
  have hvm := hwv m
  have hvm1 := hwv (m + 1)
  have hVexp : (V : Int) = (v.getD (m + 1) 0 * 4294967296 + v.getD m 0) * 4294967296 ^ m + pv v m := by
    rw [hVp, pv, pv, ew1, Int.add_mul, Int.mul_assoc, Int.mul_comm 4294967296]; omega
  have hvlo := pv_bound hwv m
  have htopge : 2147483648 ≤ v.getD (m + 1) 0 := by
    rcases Int.lt_or_le (v.getD (m + 1) 0) 2147483648 with hh | hh
    · exfalso
      have k1 : (v.getD (m + 1) 0 * 4294967296 + v.getD m 0 + 1) * 4294967296 ^ m ≤ (2147483647 * 4294967296 + 4294967296) * 4294967296 ^ m := Int.mul_le_mul_of_nonneg_right (by omega) (by omega)
      rw [Int.add_mul] at k1
      omega
    · exact hh
  have hV0 : 0 < (V : Int) := by omega
  refine ⟨fun y => ∃ j : Nat, y.1 = (j : Int) - 1 ∧ j ≤ K + 1 ∧ y.2.1.length = K + m + 3 ∧ Words y.2.1 ∧ y.2.2.length = K + 1 ∧ Words y.2.2 ∧ (∀ k, k < j → y.2.2.getD k 0 = 0) ∧
      (val u : Int) = pv y.2.2 (K + 1) * V + pv y.2.1 (K + m + 3) ∧ pv y.2.1 (K + m + 3) < V * 4294967296 ^ j, fun y => (y.1 + 1).toNat,
    ⟨K + 1, rfl, Nat.le_refl _, hulk, hu, by simp [rep'], Words.rep _, fun k hk => ?_, ?_, ?_⟩, ?_⟩
  · show (List.replicate (K + 1) (0 : Int)).getD k 0 = 0
    rw [List.getD_eq_getElem?_getD, List.getElem?_replicate]; split <;> rfl
  · show (val u : Int) = pv (List.replicate (K + 1) (0 : Int)) (K + 1) * V + pv u (K + m + 3)
    rw [pv_rep, ← hup]; omega
  · show pv u (K + m + 3) < _
    rw [← hup]; exact hU
  clear hU hup hulk hul hu
  rintro ⟨x, u1, q⟩ ⟨j, hx, hj, hul1, hu1, hql, hq, hqz, hsum, hrem⟩
  simp only at hx hj hul1 hu1 hql hq hqz hsum hrem
  subst hx
  refine condT (fun hc => ?_) (fun hc => ?_)
  · obtain ⟨i, rfl⟩ : ∃ i, j = i + 1 := ⟨j - 1, by omega⟩
    have ei : ((i + 1 : Nat) : Int) - 1 = (i : Int) := by omega
    have f1 : (i : Int) + (v.length : Int) = ((i + (m + 2) : Nat) : Int) := by omega
    have f2 : ((i + (m + 2) : Nat) : Int) - 1 = ((i + (m + 1) : Nat) : Int) := by omega
    have f3 : ((i + (m + 2) : Nat) : Int) - 2 = ((i + m : Nat) : Int) := by omega
    have f4 : ((i + (m + 2) : Nat) : Int) + 1 = ((i + (m + 3) : Nat) : Int) := by omega
    have f5 : 0 + Int.toNat (i : Int) = i := by omega
    have f6 : Int.toNat ((i + (m + 3) : Nat) : Int) - Int.toNat (i : Int) = m + 3 := by omega
    have h1 := hu1 (i + (m + 2))
    have h2 := hu1 (i + (m + 1))
    have h3 := hu1 (i + m)
    have e32 : (2 : Int) ^ Int.toNat 32 = 4294967296 := rfl
    have g1 := wrap_u64_id (m := u1.getD (i + (m + 2)) 0) (by omega) (by omega)
    have g2 := wrap_u64_id (m := u1.getD (i + (m + 1)) 0) (by omega) (by omega)
    have g3 := wrap_u64_id (m := u1.getD (i + m) 0) (by omega) (by omega)
    have g4 := wrap_u64_id (m := v.getD (m + 1) 0) (by omega) (by omega)
    have g5 := wrap_u64_id (m := v.getD m 0) (by omega) (by omega)
    have g6 := wrap_u64_id (m := u1.getD (i + (m + 2)) 0 * 4294967296) (by omega) (by omega)
    have g7 := or_u64 (x := u1.getD (i + (m + 1)) 0) (y := u1.getD (i + (m + 2)) 0 * 4294967296) 32 h2.1 h2.2 (by omega) (by show _ % 4294967296 = 0; omega) (by omega)
    simp only [ei, f1, f2, f3, f4, f5, f6, at_nat, e32, g1, g2, g3, g4, g5, g6, g7]
    -- the part that is divided
    obtain ⟨P, hPd⟩ : ∃ P, P = pv (u1.drop i) (m + 3) := ⟨_, rfl⟩
    have hPi := pow_pos_w i
    have hud : Words (u1.drop i) := hu1.drop i
    have hPb := pv_bound hud (m + 3)
    have htot : pv u1 (K + m + 3) = pv u1 i + P * 4294967296 ^ i := by
      have k0 : K + m + 3 = i + ((m + 3) + (K - i)) := by omega
      rw [k0, pv_split]
      congr 2
      rw [hPd]
      refine pv_high hud (by omega) ?_
      rw [k0, pv_split, Int.pow_succ] at hrem
      have k1 := (pv_bound hu1 i).1
      have k2 : pv (u1.drop i) (m + 3 + (K - i)) * 4294967296 ^ i < (V * 4294967296) * 4294967296 ^ i := by
        rw [Int.mul_assoc, Int.mul_comm 4294967296]; omega
      have k3 := Int.lt_of_mul_lt_mul_right k2 (Int.le_of_lt hPi)
      have k4 : (4294967296 : Int) ^ (m + 3) = 4294967296 ^ (m + 2) * 4294967296 := Int.pow_succ ..
      omega
    have hPV : P < V * 4294967296 := by
      have k1 := (pv_bound hu1 i).1
      rw [htot, Int.pow_succ] at hrem
      have k2 : P * 4294967296 ^ i < (V * 4294967296) * 4294967296 ^ i := by
        rw [Int.mul_assoc, Int.mul_comm 4294967296]; omega
      exact Int.lt_of_mul_lt_mul_right k2 (Int.le_of_lt hPi)
    have hP0 : 0 ≤ P := by rw [hPd]; exact hPb.1
    have hPexp : P = ((u1.getD (i + (m + 2)) 0 * 4294967296 + u1.getD (i + (m + 1)) 0) * 4294967296 + u1.getD (i + m) 0) * 4294967296 ^ m + pv (u1.drop i) m := by
      rw [hPd, pv, pv, pv, getD_drop, getD_drop, getD_drop, ew, ew1]
      generalize (4294967296 : Int) ^ m = B
      generalize pv (u1.drop i) m = z
      grind
    have hhd : u1.getD (i + (m + 2)) 0 ≤ v.getD (m + 1) 0 := by
      rcases Int.lt_or_le (v.getD (m + 1) 0) (u1.getD (i + (m + 2)) 0) with hh | hh
      · exfalso
        have k1 : (v.getD (m + 1) 0 + 1) * (4294967296 ^ m * 4294967296 * 4294967296) ≤ u1.getD (i + (m + 2)) 0 * (4294967296 ^ m * 4294967296 * 4294967296) := Int.mul_le_mul_of_nonneg_right (by omega) (by omega)
        have k2 : P = u1.getD (i + (m + 2)) 0 * (4294967296 ^ m * 4294967296 * 4294967296) + pv (u1.drop i) (m + 2) := by rw [hPd, pv, getD_drop, ew]; omega
        have k3 := (pv_bound hud (m + 2)).1
        have k4 : (V : Int) = v.getD (m + 1) 0 * (4294967296 ^ m * 4294967296) + pv v (m + 1) := by rw [hVp, pv, ew1]; omega
        have k5 := (pv_bound hwv (m + 1)).2
        rw [ew1] at k5
        have k6 : (V : Int) * 4294967296 < (v.getD (m + 1) 0 + 1) * (4294967296 ^ m * 4294967296 * 4294967296) := by
          rw [Int.add_mul, ← Int.mul_assoc (v.getD (m + 1) 0), k4]; omega
        omega
      · exact hh
    refine ⟨by unfold rng; omega, ⟨by omega, by omega⟩, by unfold rng; omega, by unfold rng; omega, ⟨by omega, by omega⟩, by omega, by omega, fun g => 0 ≤ g ∧ g < 4294967296 ∧ P < (g + 1) * V ∧ (g - 1) * V ≤ P,
      guess_loop (next3 := fun g => 0 ≤ g ∧ g < 4294967296 ∧ P < (g + 1) * V ∧ (g - 1) * V ≤ P) (G1 := rng ((i + (m + 2) : Nat) : Int)) (G2 := rng ((i + m : Nat) : Int)) (G3 := (0 : Int) ≤ ((i + m : Nat) : Int) ∧ ((i + m : Nat) : Int) < (u1.length : Int)) (by unfold rng; omega) (by unfold rng; omega) ⟨by omega, by omega⟩ htopge hvm1.2 hvm ⟨h1.1, hhd⟩ h2 h3 hVexp hvlo hPexp (pv_bound hud m) hPm hPV (fun g a1 a2 a3 a4 => ⟨a1, a2, a3, a4⟩), ?_⟩
    rintro g ⟨hg0, hg1, hgU, hgL⟩
    have hPW : (4294967296 : Int) ^ (m + 3) = 4294967296 ^ (m + 2) * 4294967296 := Int.pow_succ ..
    refine ⟨fun y => Words y.2 ∧ y.2.length = K + m + 3 ∧ (∀ k, k < i ∨ i + (m + 3) ≤ k → y.2.getD k 0 = u1.getD k 0) ∧ 0 ≤ y.1 ∧ y.1 < 4294967296 ∧ pv (y.2.drop i) (m + 3) = P - y.1 * V ∧ P - y.1 * V < V, ?_, ?_⟩
    · refine ⟨by unfold rng; omega, by unfold rng; omega, ⟨by omega, by omega, by omega⟩, ?_⟩
      refine natural_take_s hu1 hwv (by unfold SM; omega) (by omega) (by omega) hg0 hg1 (fun w b hw hwl hwz hb hwp => ⟨hwl, ?_⟩)
      rw [hvv, ← hPd] at hwp
      have hwd := pv_bound (hw.drop i) (m + 3)
      have hgs : (g - 1) * (V : Int) = g * V - V := by rw [Int.sub_mul]; omega
      have hga : (g + 1) * (V : Int) = g * V + V := by rw [Int.add_mul]; omega
      rcases hb with rfl | rfl
      · refine ⟨fun hh => (by cases hh), fun _ => ⟨hw, by show w.length = _; omega, hwz, hg0, hg1, ?_, ?_⟩⟩
        · show pv (w.drop i) (m + 3) = P - g * V
          omega
        · show P - g * V < V
          omega
      · refine ⟨fun _ => ⟨by unfold rng; omega, by unfold rng; omega, ⟨by omega, by omega, by omega⟩, ?_⟩, fun hh => by cases hh⟩
        refine natural_give_s hw hwv (by unfold SM; omega) (by omega) (by omega) (fun w' c hw' hwl' hwz' hc' hwp' => ⟨hwl', ?_⟩)
        rw [hvv] at hwp'
        have hwd' := pv_bound (hw'.drop i) (m + 3)
        have hg1' : 1 ≤ g := by
          rcases Int.lt_or_le g 1 with hh | hh
          · have : g = 0 := by omega
            subst this
            omega
          · exact hh
        rw [wrap_u64_id (m := g - 1) (by omega) (by omega)]
        refine ⟨hw', by show w'.length = _; omega, fun k hk => ?_, by show 0 ≤ g - 1; omega, by show g - 1 < _; omega, ?_, ?_⟩
        · show w'.getD k 0 = _
          rw [hwz' k hk, hwz k hk]
        · show pv (w'.drop i) (m + 3) = P - (g - 1) * V
          rcases hc' with rfl | rfl <;> omega
        · show P - (g - 1) * V < V
          omega
    · rintro ⟨g', u2⟩ ⟨hu2, hul2, hz2, hg0', hg1', hp2, hr2⟩
      simp only at hu2 hul2 hz2 hg0' hg1' hp2 hr2
      refine ⟨⟨by omega, by omega⟩, by unfold rng; omega, ⟨i, rfl, by omega, hul2, hu2, by simp [set', hql], ?_, fun k hk => ?_, ?_, ?_⟩, by first | omega | (dsimp only; omega)⟩
      · rw [wrap_u32, set_nat]; exact hq.set _ (by omega) (by omega)
      · show (set' q (i : Int) _).getD k 0 = 0
        rw [set_nat, getD_set_of_ne (by omega)]; exact hqz k (by omega)
      · show (val u : Int) = pv (set' q (i : Int) (IntKind.u32.wrap g')) (K + 1) * V + pv u2 (K + m + 3)
        have k0 := pv_part hz2 (K + m + 3) (by omega)
        have hgm : g' % 4294967296 = g' := by omega
        rw [set_nat, wrap_u32, hgm, pv_set_full (by omega) (K + 1) (by omega), hqz i (by omega), Int.sub_zero, hsum, Int.add_mul]
        rw [hp2, ← hPd] at k0
        have k1 : (P - g' * V - P) * 4294967296 ^ i = - (g' * 4294967296 ^ i * V) := by
          have : P - g' * V - P = - (g' * V) := by omega
          rw [this, Int.neg_mul, Int.mul_right_comm]
        omega
      · show pv u2 (K + m + 3) < V * 4294967296 ^ i
        have k0 := pv_part hz2 (K + m + 3) (by omega)
        rw [hp2, ← hPd, htot] at k0
        have k1 := (pv_bound hu1 i).2
        have k2 : (P - g' * V + 1) * 4294967296 ^ i ≤ V * 4294967296 ^ i := Int.mul_le_mul_of_nonneg_right (by omega) (by omega)
        have k3 : (P - g' * V - P) * 4294967296 ^ i = (P - g' * V) * 4294967296 ^ i - P * 4294967296 ^ i := by rw [Int.sub_mul]
        rw [Int.add_mul] at k2
        omega
  · obtain rfl : j = 0 := by omega
    rw [Int.pow_zero, Int.mul_one] at hrem
    have hq1 := val_pv hq
    have hu1v := val_pv hu1
    rw [hql] at hq1
    rw [hul1] at hu1v
    rw [← hq1, ← hu1v] at hsum
    rw [← hu1v] at hrem
    have hsumN : val u = val q * V + val u1 := by
      have : ((val u : Nat) : Int) = ((val q * V + val u1 : Nat) : Int) := by rw [Int.natCast_add, Int.natCast_mul]; exact hsum
      omega
    have hVB : V = B * 2 ^ s := hr4v
    have hps' : 0 < 2 ^ s := Nat.pow_pos (by omega)
    have hV0' : 0 < V := by omega
    have hdiv : A / B = val q := by
      have k1 : A * 2 ^ s / (B * 2 ^ s) = A / B := Nat.mul_div_mul_right _ _ hps'
      rw [← k1, ← huv, ← hVB, hsumN, Nat.add_comm, Nat.add_mul_div_right _ _ hV0', Nat.div_eq_of_lt (by omega)]; omega
    have hmod : A % B = val u1 / 2 ^ s := by
      have k1 : A * 2 ^ s % (B * 2 ^ s) = A % B * 2 ^ s := Nat.mul_mod_mul_right _ _ _
      rw [← huv, ← hVB, hsumN, Nat.add_comm, Nat.add_mul_mod_self_right, Nat.mod_eq_of_lt (by omega)] at k1
      rw [k1, Nat.mul_div_cancel _ hps']
    refine natural_trim_s hq (by unfold SM; omega) (natural_right_s hu1 (by unfold SM; omega) (by omega) (fun r hr hrl hrv => natural_trim_s hr (by unfold SM; omega) ?_))
    rw [hrv, ← hmod, ← hdiv]
    exact h
theorem natural_Gcd_s {a b : List Int} {Q : List Int → Prop} (ha : Words a) (hb : Words b) (la : a.length ≤ 1099511627774) (lb : b.length ≤ 1099511627774) (h : Q (lim (Nat.gcd (val a) (val b)))) : natural_Gcd_W a b Q := by
  refine natural_trim_s ha (by unfold SM; omega) (natural_trim_s hb (by unfold SM; omega) ?_)
  have b1 := lim_len_le ha
  have b2 := lim_len_le hb
  refine ⟨fun y => ∃ m n : Nat, y = (lim m, lim n) ∧ (lim m).length ≤ 1099511627774 ∧ (lim n).length ≤ 1099511627774 ∧ Nat.gcd m n = Nat.gcd (val a) (val b), fun y => val y.2, ⟨_, _, rfl, by omega, by omega, rfl⟩, ?_⟩
  rintro _ ⟨m, n, rfl, hm, hn, hg⟩
  refine condT (fun hc => ?_) (fun hc => ?_)
  · have hn0 : n ≠ 0 := by rintro rfl; rw [lim_zero] at hc; simp at hc
    refine natural_Div_s (lim_words m) (lim_words n) hm hn (fun h0 => absurd (by rw [val_lim] at h0; exact h0) hn0) (fun _ => ?_)
    rw [val_lim, val_lim]
    have hlt := Nat.mod_lt m (Nat.pos_of_ne_zero hn0)
    refine ⟨⟨n, m % n, rfl, hn, Nat.le_trans (lim_len_mono (Nat.le_of_lt hlt)) hn, ?_⟩, ?_⟩
    · rw [← hg, Nat.gcd_comm n, ← Nat.gcd_rec, Nat.gcd_comm]
    · show val (lim (m % n)) < val (lim n)
      rw [val_lim, val_lim]; exact hlt
  · have hn0 : n = 0 := by
      rcases Nat.eq_zero_or_pos n with h0 | h0
      · exact h0
      · rw [lim_pos h0] at hc; simp at hc
    subst hn0
    rw [Nat.gcd_zero_right] at hg
    rw [← hg] at h
    exact h
end Go.Gg
namespace Go.Gg
theorem Words.one {x : Int} (h0 : 0 ≤ x) (h1 : x < 4294967296) : Words [x] := Words.nil.cons h0 h1
end Go.Gg
namespace Go.Gg
end Go.Gg
namespace Go.Gg
theorem lim_one {g : Nat} (h : g < 4294967296) : val [(g : Int)] = g := by
  rw [val_cons (Words.one (by omega) (by omega)), val_nil]; omega
end Go.Gg
namespace Go.Gg
/-- A loop that counts up to n. -/
theorem loopInv {σ : Type} {n : Nat} (J : Nat → σ → Prop) (ix : σ → Int) (c : Int) (hix : ∀ i y, J i y → ix y = i + c) {x0 : σ} {body : σ → (σ → Prop) → Prop} (h0 : J 0 x0)
    (hs : ∀ i y (next : σ → Prop), i < n → J i y → (∀ z, J (i + 1) z → next z) → body y next) (he : ∀ y (next : σ → Prop), J n y → body y next) : loopW x0 body := by
  refine ⟨fun y => ∃ i, i ≤ n ∧ J i y, fun y => n - (ix y - c).toNat, ⟨0, Nat.zero_le _, h0⟩, ?_⟩
  rintro y ⟨i, hi, hJ⟩
  rcases Nat.lt_or_ge i n with h | h
  · refine hs i y _ h hJ fun z hz => ⟨⟨i + 1, h, hz⟩, ?_⟩
    have h1 := hix i y hJ
    have h2 := hix (i + 1) z hz
    dsimp only
    rw [h1, h2]
    omega
  · obtain rfl : i = n := by omega
    exact he y _ hJ
/-- A loop over a known sequence of states. -/
theorem loopUp {σ : Type} {n : Nat} (f : Nat → σ) (ix : σ → Int) (c : Int) (hix : ∀ i, ix (f i) = i + c) {x0 : σ} {body : σ → (σ → Prop) → Prop} (h0 : x0 = f 0)
    (hs : ∀ i (next : σ → Prop), i < n → next (f (i + 1)) → body (f i) next) (he : ∀ (next : σ → Prop), body (f n) next) : loopW x0 body :=
  loopInv (fun i y => y = f i) ix c (fun i y h => by rw [h]; exact hix i) h0 (fun i y next hi hy hn => hy ▸ hs i next hi (hn _ rfl)) (fun y next hy => hy ▸ he next)
/-- A search. -/
theorem scanW {n : Nat} (P : Nat → Prop) {E : Prop} {st : Int → (Int → Prop) → Prop} (hn : n ≤ 9223372036854775807)
    (hs : ∀ (i : Nat) (next : Int → Prop), i < n → (∀ j, j < i → ¬ P j) → (¬ P i → rng ((i : Int) + 1) ∧ next ((i : Int) + 1)) → st (i : Int) next)
    (he : (∀ j, j < n → ¬ P j) → E) : loopW (σ := Int) 0 (fun x next => condW (decide (x < (n : Int))) (st x next) E) := by
  refine loopInv (n := n) (fun i y => y = (i : Int) ∧ ∀ j, j < i → ¬ P j) (fun y => y) 0 (fun i y h => by rw [h.1, Int.add_zero]) ⟨rfl, fun j hj => absurd hj (by omega)⟩ ?_ ?_
  · rintro i _ next hi ⟨rfl, hI⟩ hn2
    refine condT (fun hc => hs i next hi hI fun hP => ⟨by unfold rng; omega, hn2 _ ⟨by omega, fun j hj => ?_⟩⟩) (fun hc => absurd (show (i : Int) < n by omega) hc)
    rcases Nat.lt_or_ge j i with h1 | h1
    · exact hI j h1
    · obtain rfl : j = i := by omega
      exact hP
  · rintro _ next ⟨rfl, hI⟩
    exact condT (fun hc => absurd hc (by omega)) (fun _ => he hI)
/-- The first number that is not 0. -/
def firstE (g : Nat → Int) : Nat → Int
  | 0 => 0
  | n + 1 => if firstE g n = 0 then g n else firstE g n
theorem firstE_zero {g : Nat → Int} : ∀ {n : Nat}, firstE g n = 0 ↔ ∀ i, i < n → g i = 0
  | 0 => ⟨fun _ i hi => absurd hi (by omega), fun _ => rfl⟩
  | n + 1 => by
    rw [firstE]
    constructor
    · intro h i hi
      split at h
      · rename_i h1
        rcases Nat.lt_or_ge i n with h2 | h2
        · exact firstE_zero.1 h1 i h2
        · obtain rfl : i = n := by omega
          exact h
      · rename_i h1; exact absurd h h1
    · intro h
      rw [if_pos (firstE_zero.2 fun i hi => h i (by omega))]
      exact h n (by omega)
theorem firstE_hit {g : Nat → Int} {i : Nat} (h : ∀ j, j < i → g j = 0) (hg : g i ≠ 0) : ∀ n, i < n → firstE g n = g i
  | 0, hn => absurd hn (by omega)
  | n + 1, hn => by
    rw [firstE]
    rcases Nat.lt_or_ge i n with h1 | h1
    · rw [firstE_hit h hg n h1, if_neg hg]
    · obtain rfl : i = n := by omega
      rw [if_pos (firstE_zero.2 h)]
end Go.Gg
/- Fractions as values: how a fraction of words and a rational number belong together. Conditions: none. -/
namespace Go.Gg
def sgn (neg : Bool) (n : Nat) : Int := if neg then -(n : Int) else n
def ratOf (q : Rat) : GRat := if q.num = 0 then ⟨false, [], []⟩ else ⟨decide (q.num < 0), lim q.num.natAbs, lim q.den⟩
def rawR (a : GRat) : Rat := mkRat (sgn a.Neg (val a.Num)) (val a.Den)
def eqR (a b : GRat) : Bool := a.Neg == b.Neg && a.Num == b.Num && a.Den == b.Den
/-- The fraction is valid. -/
def okR (a : GRat) : Bool := eqR a (ratOf (rawR a))
/-- The number for which a fraction counts. -/
def valR (a : GRat) : Rat := if okR a then rawR a else 0
theorem eqR_iff {a b : GRat} : eqR a b = true ↔ a = b := by
  cases a; cases b
  simp [eqR, and_assoc]
theorem sgn_natAbs {n : Int} : sgn (decide (n < 0)) n.natAbs = n := by
  unfold sgn
  by_cases h : n < 0
  · simp only [h, decide_true, if_true]; omega
  · simp only [h, decide_false, Bool.false_eq_true, if_false]; omega
theorem rawR_ratOf (q : Rat) : rawR (ratOf q) = q := by
  unfold ratOf
  by_cases h : q.num = 0
  · rw [if_pos h]
    have : q = 0 := Rat.num_eq_zero.1 h
    subst this
    simp [rawR, sgn, val_nil]
  · rw [if_neg h]
    simp only [rawR]
    rw [val_lim, val_lim, sgn_natAbs, Rat.mkRat_self]
theorem okR_ratOf (q : Rat) : okR (ratOf q) = true := by
  unfold okR
  rw [rawR_ratOf]
  exact eqR_iff.2 rfl
theorem valR_ratOf (q : Rat) : valR (ratOf q) = q := by rw [valR, okR_ratOf, if_pos rfl, rawR_ratOf]
theorem okR_eq {a : GRat} (h : okR a = true) : a = ratOf (valR a) := by
  have := eqR_iff.1 h
  rw [valR, h, if_pos rfl]
  exact this
/-- Words that end in one that is not zero. -/
def plainB (l : List Int) : Bool := decide (0 < l.length) && (l.getD (l.length - 1) 0 != 0)
theorem plain_lim {n : Nat} (h : n ≠ 0) : plainB (lim n) = true := by
  have h1 := lim_top h
  have h2 : (lim n).length ≠ 0 := by rw [lim_pos (by omega)]; simp
  simp only [plainB, Bool.and_eq_true, decide_eq_true_eq, bne_iff_ne]
  exact ⟨by omega, h1⟩
theorem plain_val {l : List Int} (hw : Words l) (h : plainB l = true) : lim (val l) = l ∧ val l ≠ 0 := by
  simp only [plainB, Bool.and_eq_true, decide_eq_true_eq, bne_iff_ne] at h
  have h1 := lim_val hw (fun _ => h.2)
  refine ⟨h1, fun h0 => ?_⟩
  rw [h0, lim_zero] at h1
  rw [← h1] at h
  simp at h
theorem sgn_neg {b : Bool} {n : Nat} (h : n ≠ 0) : decide (sgn b n < 0) = b := by
  cases b
  · simp [sgn]
  · simp [sgn]; omega
theorem sgn_abs {b : Bool} {n : Nat} : (sgn b n).natAbs = n := by cases b <;> simp [sgn]
theorem sgn_zero {b : Bool} : sgn b 0 = 0 := by cases b <;> rfl
theorem sgn_ne {b : Bool} {n : Nat} (h : n ≠ 0) : sgn b n ≠ 0 := by
  intro h0
  have := sgn_abs (b := b) (n := n)
  rw [h0] at this
  exact h (by simpa using this.symm)
/-- A fraction in lowest terms. -/
theorem ratOf_mk {b : Bool} {n d : Nat} (hn : n ≠ 0) (hd : d ≠ 0) : ratOf (mkRat (sgn b n) d) = ⟨b, lim (n / Nat.gcd n d), lim (d / Nat.gcd n d)⟩ := by
  have e1 : (mkRat (sgn b n) d).num = sgn b (n / Nat.gcd n d) := by
    rw [Rat.num_mkRat, if_neg hd, sgn_abs, Nat.gcd_comm]
    cases b
    · simp [sgn]
    · simp only [sgn, if_true]
      have : ((Nat.gcd n d : Nat) : Int) ∣ (n : Int) := Int.natCast_dvd_natCast.2 (Nat.gcd_dvd_left n d)
      rw [Int.neg_ediv_of_dvd this]
      simp
  have e2 : (mkRat (sgn b n) d).den = d / Nat.gcd n d := by rw [Rat.den_mkRat, if_neg hd, sgn_abs, Nat.gcd_comm]
  have hg : 0 < n / Nat.gcd n d := Nat.div_pos (Nat.le_of_dvd (by omega) (Nat.gcd_dvd_left n d)) (Nat.gcd_pos_of_pos_left _ (by omega))
  unfold ratOf
  rw [e1, e2, if_neg (sgn_ne (by omega)), sgn_neg (by omega), sgn_abs]
theorem ratOf_mk0 {b : Bool} {d : Nat} : ratOf (mkRat (sgn b 0) d) = ⟨false, [], []⟩ := by rw [sgn_zero, Rat.zero_mkRat]; rfl
theorem okR_iff {a : GRat} (hn : Words a.Num) (hd : Words a.Den) :
    okR a = if a.Num.length = 0 ∧ a.Den.length = 0 then !a.Neg else plainB a.Num && (plainB a.Den && decide (Nat.gcd (val a.Num) (val a.Den) = 1)) := by
  obtain ⟨b, n, d⟩ := a
  simp only at hn hd ⊢
  by_cases h : n.length = 0 ∧ d.length = 0
  · rw [if_pos h]
    obtain rfl := List.eq_nil_of_length_eq_zero h.1
    obtain rfl := List.eq_nil_of_length_eq_zero h.2
    simp only [okR, rawR, val_nil, ratOf_mk0]
    cases b <;> rfl
  · rw [if_neg h]
    cases hp : plainB n with
    | false =>
      rw [Bool.false_and]
      cases ho : okR ⟨b, n, d⟩ with
      | false => rfl
      | true =>
        exfalso
        have e := okR_eq ho
        unfold ratOf at e
        split at e
        · cases e; exact h ⟨rfl, rfl⟩
        · rename_i hz
          injection e with e1 e2 e3
          rw [e2, plain_lim (by omega)] at hp
          cases hp
    | true =>
    rw [Bool.true_and]
    cases hq : plainB d with
    | false =>
      rw [Bool.false_and]
      cases ho : okR ⟨b, n, d⟩ with
      | false => rfl
      | true =>
        exfalso
        have e := okR_eq ho
        unfold ratOf at e
        split at e
        · cases e; exact h ⟨rfl, rfl⟩
        · rename_i hz
          injection e with e1 e2 e3
          rw [e3, plain_lim (Rat.den_nz _)] at hq
          cases hq
    | true =>
    rw [Bool.true_and]
    obtain ⟨n1, n2⟩ := plain_val hn hp
    obtain ⟨d1, d2⟩ := plain_val hd hq
    have hm : ratOf (rawR ⟨b, n, d⟩) = ⟨b, lim (val n / Nat.gcd (val n) (val d)), lim (val d / Nat.gcd (val n) (val d))⟩ := ratOf_mk n2 d2
    by_cases hg : Nat.gcd (val n) (val d) = 1
    · rw [hg] at hm
      simp only [hg, decide_true]
      rw [okR]
      refine eqR_iff.2 ?_
      rw [hm, Nat.div_one, Nat.div_one, n1, d1]
    · simp only [hg, decide_false]
      cases ho : okR ⟨b, n, d⟩ with
      | false => rfl
      | true =>
        exfalso
        have e := eqR_iff.1 ho
        rw [hm] at e
        injection e with e1 e2 e3
        have e4 : val n = val n / Nat.gcd (val n) (val d) := by
          have := congrArg val e2
          rwa [val_lim] at this
        have hgp : 0 < Nat.gcd (val n) (val d) := Nat.gcd_pos_of_pos_left _ (by omega)
        have := Nat.div_lt_self (n := val n) (by omega) (show 1 < Nat.gcd (val n) (val d) by omega)
        omega
/-- The fraction's numbers fit so many bits. -/
def RB (k : Nat) (q : Rat) : Prop := q.num.natAbs < 2 ^ k ∧ q.den < 2 ^ k
theorem RB.mono {k l : Nat} {q : Rat} (h : RB k q) (hkl : k ≤ l) : RB l q :=
  ⟨Nat.lt_of_lt_of_le h.1 (Nat.pow_le_pow_right (by omega) hkl), Nat.lt_of_lt_of_le h.2 (Nat.pow_le_pow_right (by omega) hkl)⟩
theorem lim_len_bits {n k : Nat} (h : n < 2 ^ k) : (lim n).length ≤ k / 32 + 1 := by
  refine lim_len_lt (Nat.lt_of_lt_of_le h ?_)
  have : (4294967296 : Nat) ^ (k / 32 + 1) = 2 ^ (32 * (k / 32 + 1)) := by rw [Nat.pow_mul]
  rw [this]
  exact Nat.pow_le_pow_right (by omega) (by omega)
theorem RB_zero (k : Nat) (hk : 1 ≤ k) : RB k 0 := ⟨by simp; exact Nat.pow_pos (by omega), by
  have : 2 ^ 1 ≤ 2 ^ k := Nat.pow_le_pow_right (by omega) hk
  simp; omega⟩
theorem mul_lt_pow2 {m n k l : Nat} (h : m < 2 ^ k) (h' : n < 2 ^ l) : m * n < 2 ^ (k + l) := by
  rw [Nat.pow_add]
  exact Nat.mul_lt_mul'' h h'
theorem RB_mkRat {n : Int} {d k : Nat} (hd : d ≠ 0) (hn : n.natAbs < 2 ^ k) (hdk : d < 2 ^ k) : RB k (mkRat n d) := by
  refine ⟨?_, ?_⟩
  · rw [Rat.num_mkRat, if_neg hd]
    refine Nat.lt_of_le_of_lt ?_ hn
    exact Int.natAbs_ediv_le_natAbs _ _
  · rw [Rat.den_mkRat, if_neg hd]
    exact Nat.lt_of_le_of_lt (Nat.div_le_self _ _) hdk
theorem RB_mul {k l : Nat} {p q : Rat} (hp : RB k p) (hq : RB l q) : RB (k + l) (p * q) := by
  rw [Rat.mul_def']
  refine RB_mkRat (Nat.mul_ne_zero p.den_nz q.den_nz) ?_ (mul_lt_pow2 hp.2 hq.2)
  rw [Int.natAbs_mul]
  exact mul_lt_pow2 hp.1 hq.1
theorem RB_add {k l : Nat} {p q : Rat} (hp : RB k p) (hq : RB l q) : RB (k + l + 1) (p + q) := by
  rw [Rat.add_def']
  refine RB_mkRat (Nat.mul_ne_zero p.den_nz q.den_nz) ?_ (Nat.lt_of_lt_of_le (mul_lt_pow2 hp.2 hq.2) (Nat.pow_le_pow_right (by omega) (by omega)))
  have h1 : (p.num * q.den).natAbs < 2 ^ (k + l) := by rw [Int.natAbs_mul]; exact mul_lt_pow2 hp.1 (by simpa using hq.2)
  have h2 : (q.num * p.den).natAbs < 2 ^ (k + l) := by rw [Int.natAbs_mul, Nat.add_comm k l]; exact mul_lt_pow2 hq.1 (by simpa using hp.2)
  have h3 := Int.natAbs_add_le (p.num * q.den) (q.num * p.den)
  rw [Nat.pow_succ]
  omega
theorem RB_neg {k : Nat} {p : Rat} (hp : RB k p) : RB k (-p) := ⟨by simpa using hp.1, hp.2⟩
theorem RB_inv {k : Nat} {p : Rat} (hp : RB k p) : RB k p⁻¹ := by
  by_cases h0 : p.num = 0
  · have : p = 0 := Rat.num_eq_zero.1 h0
    subst this
    simpa using hp
  · refine ⟨?_, ?_⟩
    · rw [Rat.num_inv, Int.natAbs_mul, Int.natAbs_sign_of_ne_zero h0, Nat.one_mul]; simpa using hp.2
    · rw [Rat.den_inv, if_neg h0]; exact hp.1
theorem RB_div {k l : Nat} {p q : Rat} (hp : RB k p) (hq : RB l q) : RB (k + l) (p / q) := by rw [Rat.div_def]; exact RB_mul hp (RB_inv hq)
theorem RB_sub {k l : Nat} {p q : Rat} (hp : RB k p) (hq : RB l q) : RB (k + l + 1) (p - q) := by rw [Rat.sub_eq_add_neg]; exact RB_add hp (RB_neg hq)
theorem RB_int {k : Nat} {n : Int} (hk : 1 ≤ k) (h : n.natAbs < 2 ^ k) : RB k (n : Rat) := ⟨h, by
  have : 2 ^ 1 ≤ 2 ^ k := Nat.pow_le_pow_right (by omega) hk
  show 1 < 2 ^ k
  omega⟩
end Go.Gg
namespace Go.Gg
/-- A fraction whose words are words, and not too many. -/
def Fr (a : GRat) : Prop := Words a.Num ∧ Words a.Den ∧ a.Num.length ≤ 1099511627760 ∧ a.Den.length ≤ 1099511627760
theorem Fr_ratOf {q : Rat} {k : Nat} (h : RB k q) (hk : k ≤ 35184372088000) : Fr (ratOf q) := by
  unfold ratOf
  split
  · exact ⟨Words.nil, Words.nil, by simp, by simp⟩
  · have h1 := lim_len_bits h.1
    have h2 := lim_len_bits h.2
    exact ⟨lim_words _, lim_words _, by dsimp only; omega, by dsimp only; omega⟩
theorem len_lim_zero {n : Nat} : ((lim n).length : Int) = 0 ↔ n = 0 := by
  constructor
  · intro h
    rcases Nat.eq_zero_or_pos n with h0 | h0
    · exact h0
    · rw [lim_pos h0] at h; simp at h; omega
  · rintro rfl; rw [lim_zero]; rfl
theorem blen_eq_zero {n : Nat} : (blen n : Int) = 0 ↔ n = 0 := by
  unfold blen
  split <;> omega
theorem sgn_mul {b : Bool} {m n : Nat} : sgn b (m * n) = sgn b m * (n : Int) := by
  cases b <;> simp [sgn, Int.natCast_mul, Int.neg_mul]
theorem sgn_mul2 {b c : Bool} {m n : Nat} : sgn (b != c) (m * n) = sgn b m * sgn c n := by
  cases b <;> cases c <;> simp [sgn, Int.natCast_mul, Int.neg_mul, Int.mul_neg, Int.neg_neg]
theorem sgn_add {b : Bool} {m n : Nat} : sgn b (m + n) = sgn b m + sgn b n := by
  cases b <;> simp only [sgn, Bool.false_eq_true, if_false, if_true] <;> omega
theorem sgn_sub {b c : Bool} {m n : Nat} (hbc : ¬ b = c) (h : n ≤ m) : sgn b (m - n) = sgn b m + sgn c n := by
  cases b <;> cases c <;> first | exact absurd rfl hbc | (simp only [sgn, Bool.false_eq_true, if_false, if_true]; omega)
theorem sgn_self (q : Rat) : sgn (decide (q.num < 0)) q.num.natAbs = q.num := sgn_natAbs
theorem val_one : val [1] = 1 := lim_one (g := 1) (by omega)
theorem lim_1 : lim 1 = [1] := by rw [lim_pos (by omega)]; simp [lim_zero]
theorem Words_one : Words [1] := Words.one (by omega) (by omega)
theorem rational_form_s {neg : Bool} {num den : List Int} {Q : GRat → Prop} (hn : Words num) (hd : Words den) (ln : num.length ≤ 1099511627760) (ld : den.length ≤ 1099511627760)
    (h0 : val den ≠ 0) (h : Q (ratOf (mkRat (sgn neg (val num)) (val den)))) : rational_form_W neg num den Q := by
  refine natural_Bits_s hn (by unfold SM; omega) (condE (fun hc => ?_) (fun hc => ?_))
  · rw [blen_eq_zero] at hc
    rw [hc, ratOf_mk0] at h
    exact h
  · have hn0 : val num ≠ 0 := fun hh => hc (blen_eq_zero.2 hh)
    rw [ratOf_mk hn0 h0] at h
    have hgp : Nat.gcd (val num) (val den) ≠ 0 := Nat.ne_of_gt (Nat.gcd_pos_of_pos_left _ (by omega))
    refine natural_Gcd_s hn hd (by omega) (by omega) ?_
    have hgl : (lim (Nat.gcd (val num) (val den))).length ≤ 1099511627760 := by
      refine Nat.le_trans (lim_len_mono (Nat.gcd_le_left _ (by omega))) (Nat.le_trans (lim_len_le hn) ln)
    refine natural_Div_s hn (lim_words _) (by omega) (by omega) (fun hh => absurd (by rwa [val_lim] at hh) hgp) (fun _ => ?_)
    refine natural_Div_s hd (lim_words _) (by omega) (by omega) (fun hh => absurd (by rwa [val_lim] at hh) hgp) (fun _ => ?_)
    rw [val_lim]
    exact h
theorem rational_plain_s {a : List Int} {Q : Bool → Prop} (la : a.length ≤ 1099511627776) (h : Q (plainB a)) : rational_plain_W a Q := by
  refine condT (fun hc => ⟨by unfold rng; omega, by omega, ?_⟩) (fun hc => ?_)
  · have e : plainB a = (at' a ((a.length : Int) - 1) != 0) := by
      have : (a.length : Int) - 1 = ((a.length - 1 : Nat) : Int) := by omega
      rw [this, at_nat]
      simp only [plainB]
      rw [decide_eq_true (by omega : 0 < a.length), Bool.true_and]
    rw [← e]; exact h
  · have e : plainB a = false := by
      simp only [plainB]
      rw [decide_eq_false (by omega : ¬ 0 < a.length), Bool.false_and]
    rw [e] at h; exact h
theorem condB {b : Bool} {p q : Prop} (h1 : b = true → p) (h2 : b = false → q) : condW b p q := ⟨h1, h2⟩
theorem natural_Cmp_one {n : Nat} {Q : Int → Prop} (hl : (lim n).length ≤ 1099511627776) (h : Q (cmpv n 1)) : natural_Cmp_W (lim n) [1] Q := by
  refine natural_Cmp_s (lim_words _) Words_one (by unfold SM; omega) (by unfold SM; simp) ?_
  rw [val_lim, val_one]
  exact h
theorem cmpv_eq0 {m n : Nat} : (cmpv m n == 0) = decide (m = n) := by
  unfold cmpv
  split
  · rw [decide_eq_false (by omega)]; rfl
  · split
    · rename_i h; rw [decide_eq_true h]; rfl
    · rename_i h; rw [decide_eq_false h]; rfl
theorem rational_Valid_s {a : GRat} {Q : Bool → Prop} (fa : Fr a) (h : Q (okR a)) : rational_Valid_W a Q := by
  obtain ⟨hn, hd, ln, ld⟩ := fa
  rw [okR_iff hn hd] at h
  refine ⟨fun x => x = decide (a.Num.length = 0 ∧ a.Den.length = 0), ?_, ?_⟩
  · refine condE (fun hc => ?_) (fun hc => ?_)
    · by_cases hd0 : a.Den.length = 0
      · rw [decide_eq_true ⟨by omega, hd0⟩]; simp; exact List.eq_nil_of_length_eq_zero hd0
      · rw [decide_eq_false (by omega)]; simp; intro hh; exact hd0 (by rw [hh]; rfl)
    · rw [decide_eq_false (by omega)]
  · rintro _ rfl
    refine condT (fun hc => ?_) (fun hc => ?_)
    · rw [if_pos hc] at h; exact h
    · rw [if_neg hc] at h
      refine rational_plain_s (by omega) (condB (fun hp => ?_) (fun hp => ?_))
      · rw [hp, Bool.true_and] at h
        refine rational_plain_s (by omega) (condB (fun hq => ?_) (fun hq => ?_))
        · rw [hq, Bool.true_and] at h
          refine natural_Gcd_s hn hd (by omega) (by omega) ?_
          have hgl : (lim (Nat.gcd (val a.Num) (val a.Den))).length ≤ 1099511627760 := by
            refine Nat.le_trans (lim_len_mono (Nat.gcd_le_left _ ?_)) (Nat.le_trans (lim_len_le hn) ln)
            have := (plain_val hn hp).2
            omega
          show natural_Cmp_W (lim (Nat.gcd (val a.Num) (val a.Den))) [1] (fun r4 => Q (r4 == 0))
          refine natural_Cmp_one (by omega) ?_
          rw [cmpv_eq0]
          exact h
        · rw [hq, Bool.false_and] at h; exact h
      · rw [hp, Bool.false_and] at h; exact h
theorem valR_bad {a : GRat} (h : okR a = false) : valR a = 0 := by rw [valR, h]; rfl
theorem parts_zero {a : GRat} (h : okR a = true → a.Num.length = 0) : valR a = 0 := by
  cases ho : okR a with
  | false => exact valR_bad ho
  | true =>
    have e := okR_eq ho
    have hl := h ho
    unfold ratOf at e
    split at e
    · rename_i hz; exact Rat.num_eq_zero.1 hz
    · rename_i hz
      rw [e] at hl
      have := len_lim_zero.1 (by rw [hl]; rfl)
      omega
theorem parts_some {a : GRat} (ho : okR a = true) (hl : a.Num.length ≠ 0) : (valR a).num ≠ 0 ∧ a = ⟨decide ((valR a).num < 0), lim (valR a).num.natAbs, lim (valR a).den⟩ := by
  have e := okR_eq ho
  by_cases hz : (valR a).num = 0
  · exfalso
    unfold ratOf at e
    rw [if_pos hz] at e
    rw [e] at hl
    exact hl rfl
  · refine ⟨hz, ?_⟩
    unfold ratOf at e
    rw [if_neg hz] at e
    exact e
theorem rational_parts_s {a : GRat} {Q : Bool → List Int → List Int → Prop} (fa : Fr a) (h : Q (decide ((valR a).num < 0)) (lim (valR a).num.natAbs) (lim (valR a).den)) : rational_parts_W a Q := by
  refine ⟨fun x => x = (!okR a || decide (a.Num.length = 0)), ?_, ?_⟩
  · refine rational_Valid_s fa (condB (fun hc => ?_) (fun hc => ?_))
    · rw [hc]; rfl
    · rw [hc, Bool.false_or]
      by_cases hl : a.Num.length = 0
      · rw [decide_eq_true hl]; simp; exact List.eq_nil_of_length_eq_zero hl
      · rw [decide_eq_false hl]; simp; intro hh; exact hl (by rw [hh]; rfl)
  · rintro _ rfl
    refine condB (fun hc => ?_) (fun hc => ?_)
    · have hz : valR a = 0 := parts_zero (fun ho => by rw [ho] at hc; simpa using hc)
      rw [hz] at h
      simp at h
      rw [lim_zero, lim_1] at h
      exact h
    · simp at hc
      obtain ⟨_, e⟩ := parts_some hc.1 (fun hl => hc.2 (List.eq_nil_of_length_eq_zero hl))
      rw [show a.Neg = decide ((valR a).num < 0) from by rw [e]; simp [← e], show a.Num = lim (valR a).num.natAbs from by rw [e]; simp [← e], show a.Den = lim (valR a).den from by rw [e]; simp [← e]]
      exact h
theorem RBlens {q : Rat} {k : Nat} (h : RB k q) : (lim q.num.natAbs).length ≤ k / 32 + 1 ∧ (lim q.den).length ≤ k / 32 + 1 := ⟨lim_len_bits h.1, lim_len_bits h.2⟩
theorem mulLens {m n k l : Nat} (h : m < 2 ^ k) (h' : n < 2 ^ l) : (lim (m * n)).length ≤ (k + l) / 32 + 1 := lim_len_bits (mul_lt_pow2 h h')
theorem addLens {m n k : Nat} (h : m < 2 ^ k) (h' : n < 2 ^ k) : (lim (m + n)).length ≤ (k + 1) / 32 + 1 := lim_len_bits (by rw [Nat.pow_succ]; omega)
/-- The sum over both denominators. -/
theorem add_frac (p q : Rat) : p + q = mkRat (sgn (decide (p.num < 0)) (p.num.natAbs * q.den) + sgn (decide (q.num < 0)) (q.num.natAbs * p.den)) (p.den * q.den) := by
  rw [sgn_mul, sgn_mul, sgn_self, sgn_self, Rat.add_def']
theorem inv_frac {q : Rat} (_h : q.num ≠ 0) : q⁻¹ = mkRat (sgn (decide (q.num < 0)) q.den) q.num.natAbs := by
  rw [Rat.inv_def]
  by_cases hn : q.num < 0
  · rw [decide_eq_true hn]
    have e : q.num = -((q.num.natAbs : Nat) : Int) := by omega
    rw [← Rat.divInt_ofNat]
    show Rat.divInt q.den q.num = Rat.divInt (-(q.den : Int)) _
    rw [← Rat.divInt_neg', ← e]
  · rw [decide_eq_false hn]
    have e : q.num = ((q.num.natAbs : Nat) : Int) := by omega
    rw [← Rat.divInt_ofNat]
    show Rat.divInt q.den q.num = Rat.divInt (q.den : Int) _
    rw [← e]
theorem div_frac (p : Rat) {q : Rat} (h : q.num ≠ 0) : p / q = mkRat (sgn (decide (p.num < 0) != decide (q.num < 0)) (p.num.natAbs * q.den)) (p.den * q.num.natAbs) := by
  rw [Rat.div_def, inv_frac h, sgn_mul2, sgn_self]
  have : p = mkRat p.num p.den := (Rat.mkRat_self p).symm
  rw [this, Rat.mkRat_mul_mkRat, ← this]
theorem neg_frac (p : Rat) : -p = mkRat (sgn (!decide (p.num < 0)) p.num.natAbs) p.den := by
  have e : sgn (!decide (p.num < 0)) p.num.natAbs = -p.num := by
    by_cases h : p.num < 0
    · rw [decide_eq_true h]; simp only [sgn, Bool.not_true, Bool.false_eq_true, if_false]; omega
    · rw [decide_eq_false h]; simp only [sgn, Bool.not_false, if_true]; omega
  rw [e, ← Rat.neg_mkRat, Rat.mkRat_self]
theorem rational_Add_s {a b : GRat} {k l : Nat} {Q : GRat → Prop} (fa : Fr a) (fb : Fr b) (ka : RB k (valR a)) (kb : RB l (valR b)) (hk : k + l + 1 ≤ 35184372088000) (h : Q (ratOf (valR a + valR b))) : rational_Add_W a b Q := by
  refine rational_parts_s fa (rational_parts_s fb ?_)
  generalize valR a = p at ka h ⊢
  generalize valR b = q at kb h ⊢
  have la := RBlens ka
  have lb := RBlens kb
  have l1 := mulLens ka.1 kb.2
  have l2 := mulLens kb.1 ka.2
  have l3 := mulLens ka.2 kb.2
  have hd : p.den * q.den ≠ 0 := Nat.mul_ne_zero p.den_nz q.den_nz
  refine natural_Mul_s (lim_words _) (lim_words _) (by omega) (natural_Mul_s (lim_words _) (lim_words _) (by omega) (natural_Mul_s (lim_words _) (lim_words _) (by omega) ?_))
  simp only [val_lim]
  rw [add_frac] at h
  refine condE (fun hs => ?_) (fun hs => ?_)
  · refine natural_Add_s (lim_words _) (lim_words _) (by unfold SM; omega) ⟨by omega, by omega⟩ ?_
    simp only [val_lim]
    have l4 : (lim (p.num.natAbs * q.den + q.num.natAbs * p.den)).length ≤ (k + l + 1) / 32 + 1 := addLens (mul_lt_pow2 ka.1 kb.2) (by rw [Nat.add_comm k]; exact mul_lt_pow2 kb.1 ka.2)
    refine rational_form_s (lim_words _) (lim_words _) (by omega) (by omega) (by rw [val_lim]; exact hd) ?_
    rw [val_lim, val_lim, sgn_add]
    rw [← hs] at h
    exact h
  · refine natural_Cmp_s (lim_words _) (lim_words _) (by unfold SM; omega) (by unfold SM; omega) ?_
    simp only [val_lim]
    refine condT (fun hc => ?_) (fun hc => ?_)
    · have hle : q.num.natAbs * p.den ≤ p.num.natAbs * q.den := by
        rcases Nat.lt_or_ge (p.num.natAbs * q.den) (q.num.natAbs * p.den) with h1 | h1
        · have := cmpv_lt.2 h1; omega
        · exact h1
      refine natural_Sub_s (lim_words _) (lim_words _) (by unfold SM; omega) (by unfold SM; omega) (fun hh => by rw [val_lim, val_lim] at hh; omega) (fun _ => ?_)
      simp only [val_lim]
      have l4 := lim_len_mono (Nat.sub_le (p.num.natAbs * q.den) (q.num.natAbs * p.den))
      refine rational_form_s (lim_words _) (lim_words _) (by omega) (by omega) (by rw [val_lim]; exact hd) ?_
      rw [val_lim, val_lim, sgn_sub hs hle]
      exact h
    · have hle : p.num.natAbs * q.den ≤ q.num.natAbs * p.den := by
        rcases Nat.lt_or_ge (p.num.natAbs * q.den) (q.num.natAbs * p.den) with h1 | h1
        · omega
        · exfalso
          apply hc
          unfold cmpv
          split
          · omega
          · split <;> omega
      refine natural_Sub_s (lim_words _) (lim_words _) (by unfold SM; omega) (by unfold SM; omega) (fun hh => by rw [val_lim, val_lim] at hh; omega) (fun _ => ?_)
      simp only [val_lim]
      have l4 := lim_len_mono (Nat.sub_le (q.num.natAbs * p.den) (p.num.natAbs * q.den))
      refine rational_form_s (lim_words _) (lim_words _) (by omega) (by omega) (by rw [val_lim]; exact hd) ?_
      rw [val_lim, val_lim, sgn_sub (fun e => hs e.symm) hle, Int.add_comm]
      exact h
theorem rational_Div_s {a b : GRat} {k l : Nat} {Q : GRat → Option Int → Prop} (fa : Fr a) (fb : Fr b) (ka : RB k (valR a)) (kb : RB l (valR b)) (hk : k + l + 1 ≤ 35184372088000)
    (h0 : valR b = 0 → Q (ratOf 0) (some 8)) (h : valR b ≠ 0 → Q (ratOf (valR a / valR b)) none) : rational_Div_W a b Q := by
  refine rational_parts_s fa (rational_parts_s fb ?_)
  generalize valR a = p at ka h ⊢
  generalize valR b = q at kb h h0 ⊢
  have la := RBlens ka
  have lb := RBlens kb
  have l1 := mulLens ka.1 kb.2
  have l3 := mulLens ka.2 kb.1
  refine condE (fun hc => ?_) (fun hc => ?_)
  · rw [len_lim_zero] at hc
    exact h0 (Rat.num_eq_zero.1 (by omega))
  · have hq : q.num ≠ 0 := fun hh => hc (len_lim_zero.2 (by omega))
    have hd : p.den * q.num.natAbs ≠ 0 := Nat.mul_ne_zero p.den_nz (by omega)
    refine natural_Mul_s (lim_words _) (lim_words _) (by omega) (natural_Mul_s (lim_words _) (lim_words _) (by omega) ?_)
    simp only [val_lim]
    refine rational_form_s (lim_words _) (lim_words _) (by omega) (by omega) (by rw [val_lim]; exact hd) ?_
    rw [val_lim, val_lim, ← div_frac p hq]
    exact h (fun hh => hq (by rw [hh]; rfl))
theorem rational_Neg_s {a : GRat} {k : Nat} {Q : GRat → Prop} (fa : Fr a) (ka : RB k (valR a)) (hk : k ≤ 35184372088000) (h : Q (ratOf (-valR a))) : rational_Neg_W a Q := by
  refine rational_parts_s fa ?_
  generalize valR a = p at ka h ⊢
  have la := RBlens ka
  refine rational_form_s (lim_words _) (lim_words _) (by omega) (by omega) (by rw [val_lim]; exact p.den_nz) ?_
  rw [val_lim, val_lim, ← neg_frac]
  exact h
theorem rational_Sub_s {a b : GRat} {k l : Nat} {Q : GRat → Prop} (fa : Fr a) (fb : Fr b) (ka : RB k (valR a)) (kb : RB l (valR b)) (hk : k + l + 1 ≤ 35184372088000) (h : Q (ratOf (valR a - valR b))) : rational_Sub_W a b Q := by
  refine ⟨_, rational_Neg_s fb kb (by omega) rfl, _, rational_Add_s fa (Fr_ratOf (RB_neg kb) (by omega)) ka (by rw [valR_ratOf]; exact RB_neg kb) hk rfl, ?_⟩
  rw [valR_ratOf, ← Rat.sub_eq_add_neg]
  exact h
/-- The sign of a number. -/
def sgnR (q : Rat) : Int := if q.num = 0 then 0 else if q.num < 0 then -1 else 1
theorem rational_Sign_s {a : GRat} {Q : Int → Prop} (fa : Fr a) (h : Q (sgnR (valR a))) : rational_Sign_W a Q := by
  refine rational_parts_s fa ?_
  generalize valR a = p at h ⊢
  unfold sgnR at h
  refine condE (fun hc => ?_) (fun hc => ?_)
  · rw [len_lim_zero] at hc
    rw [if_pos (by omega)] at h; exact h
  · have hq : p.num ≠ 0 := fun hh => hc (len_lim_zero.2 (by omega))
    rw [if_neg hq] at h
    refine condT (fun hs => ?_) (fun hs => ?_)
    · rw [if_pos hs] at h; exact h
    · rw [if_neg hs] at h; exact h
theorem rational_Cmp_s {a b : GRat} {k l : Nat} {Q : Int → Prop} (fa : Fr a) (fb : Fr b) (ka : RB k (valR a)) (kb : RB l (valR b)) (hk : k + l + 1 ≤ 35184372088000) (h : Q (sgnR (valR a - valR b))) : rational_Cmp_W a b Q := by
  refine rational_Sub_s fa fb ka kb hk (rational_Sign_s (Fr_ratOf (RB_sub ka kb) hk) ?_)
  rw [valR_ratOf]
  exact h
theorem rational_size_s {n : Int} {Q : List Int → Prop} (hn : rng n) (h : Q (lim n.natAbs)) : rational_size_W n Q := by
  refine condE (fun hc => ?_) (fun hc => ?_)
  · subst hc
    have : lim (Int.natAbs (-9223372036854775808)) = [0, 2147483648] := by
      rw [show Int.natAbs (-9223372036854775808) = 9223372036854775808 from rfl, lim_pos (by omega), lim_pos (by omega)]
      simp [lim_zero]
    rw [this] at h
    exact h
  · unfold rng at hn ⊢
    refine ⟨by omega, natural_Of_s (by omega) ?_⟩
    have : (max n (-n)).toNat = n.natAbs := by omega
    rw [this]
    exact h
theorem rational_Of_s {n : Int} {Q : GRat → Prop} (hn : rng n) (h : Q (ratOf (n : Rat))) : rational_Of_W n Q := by
  refine rational_size_s hn ?_
  show rational_form_W _ _ [1] _
  have hl : (lim n.natAbs).length ≤ 64 / 32 + 1 := lim_len_bits (by unfold rng at hn; omega)
  refine rational_form_s (lim_words _) Words_one (by omega) (by simp) (by rw [val_one]; omega) ?_
  rw [val_lim, val_one, sgn_natAbs, show mkRat n 1 = (n : Rat) from Rat.mkRat_self (n : Rat)]
  exact h
end Go.Gg
namespace Go.Gg
end Go.Gg
namespace Go.Gg
theorem eq_by {α : Type} [Inhabited α] {l m : List α} (hl : l.length = m.length) (h : ∀ i : Nat, i < l.length → at' l (i : Int) = at' m (i : Int)) : l = m := by
  refine List.ext_getElem hl fun i h1 h2 => ?_
  have := h i h1
  simp only [at', Int.toNat_natCast, List.getD_eq_getElem?_getD, List.getElem?_eq_getElem h1, List.getElem?_eq_getElem h2, Option.getD_some] at this
  exact this
instance decGRat : DecidableEq GRat := fun _ _ => decidable_of_iff _ eqR_iff
/-- An error's number as the program's error. -/
def errO (e : Int) : Option Int := if e = 0 then none else some e
theorem base_Num_s {e : Int} {Q : Int → Prop} (h : Q e) : base_Num_W (errO e) Q := by
  unfold errO
  by_cases he : e = 0
  · rw [if_pos he]; subst he; exact condB (fun _ => h) (fun hh => by cases hh)
  · rw [if_neg he]; exact condB (fun hh => by cases hh) (fun _ => condB (fun _ => h) (fun hh => by cases hh))
end Go.Gg
namespace Go.Gg
/-- A fraction of words with its value and its bound. -/
def Rp (k : Nat) (a : GRat) (q : Rat) : Prop := Fr a ∧ valR a = q ∧ RB k q
abbrev cap : Nat := 35184372088000
theorem Rp.of {q : Rat} {k : Nat} (h : RB k q) (hk : k ≤ cap) : Rp k (ratOf q) q := ⟨Fr_ratOf h hk, valR_ratOf q, h⟩
theorem Rp.mono {a : GRat} {q : Rat} {k l : Nat} (h : Rp k a q) (hkl : k ≤ l) : Rp l a q := ⟨h.1, h.2.1, h.2.2.mono hkl⟩
theorem Rp.len {a : GRat} {q : Rat} {k : Nat} (h : Rp k a q) : a.Num.length ≤ 1099511627776 ∧ a.Den.length ≤ 1099511627776 := ⟨Nat.le_trans h.1.2.2.1 (by omega), Nat.le_trans h.1.2.2.2 (by omega)⟩
theorem Rp.zero {k : Nat} (hk : 1 ≤ k) (hk2 : k ≤ cap) : Rp k (⟨false, [], []⟩ : GRat) 0 := .of (RB_zero k hk) hk2
theorem RB_of_int {n : Int} (hn : rng n) : RB 64 (n : Rat) := RB_int (by omega) (by unfold rng at hn; omega)
theorem sgnR_neg {q : Rat} : sgnR q < 0 ↔ q < 0 := by
  unfold sgnR
  have h1 : q.num < 0 ↔ q < 0 := by
    have := Rat.num_nonneg (q := q)
    rw [← Int.not_le, this, Rat.not_le]
  split
  · rename_i h; rw [h] at h1; simpa using h1
  · split
    · rename_i h; simpa using h1.1 h
    · rename_i h; simpa using fun hh => h (h1.2 hh)
theorem sgnR_eq {q : Rat} : sgnR q = 0 ↔ q = 0 := by
  unfold sgnR
  constructor
  · intro h
    split at h
    · rename_i h0; exact Rat.num_eq_zero.1 h0
    · split at h <;> omega
  · rintro rfl; rfl
theorem add_p {a b : GRat} {p q : Rat} {k l : Nat} {Q : GRat → Prop} (ha : Rp k a p) (hb : Rp l b q) (hk : k + l + 1 ≤ cap) (h : Rp (k + l + 1) (ratOf (p + q)) (p + q) → Q (ratOf (p + q))) : rational_Add_W a b Q := by
  obtain ⟨fa, rfl, ka⟩ := ha
  obtain ⟨fb, rfl, kb⟩ := hb
  exact rational_Add_s fa fb ka kb hk (h (.of (RB_add ka kb) hk))
theorem add_pd {a b : GRat} {p q : Rat} {k l : Nat} {K : GRat → Prop} (ha : Rp k a p) (hb : Rp l b q) (hk : k + l + 1 ≤ cap) (h : Rp (k + l + 1) (ratOf (p + q)) (p + q) → K (ratOf (p + q))) : detW (rational_Add_W a b) K :=
  ⟨_, add_p ha hb hk (fun _ => rfl), h (.of (RB_add ha.2.2 hb.2.2) hk)⟩
theorem div_p {a b : GRat} {p q : Rat} {k l : Nat} {Q : GRat → Option Int → Prop} (ha : Rp k a p) (hb : Rp l b q) (hk : k + l + 1 ≤ cap) (h0 : q = 0 → Q (ratOf 0) (some 8)) (h : q ≠ 0 → Rp (k + l) (ratOf (p / q)) (p / q) → Q (ratOf (p / q)) none) : rational_Div_W a b Q := by
  obtain ⟨fa, rfl, ka⟩ := ha
  obtain ⟨fb, rfl, kb⟩ := hb
  exact rational_Div_s fa fb ka kb hk h0 (fun hn => h hn (.of (RB_div ka kb) (by simp only [cap] at hk ⊢; omega)))
theorem div_pd {a b : GRat} {p q : Rat} {k l : Nat} {K : GRat → Option Int → Prop} (ha : Rp k a p) (hb : Rp l b q) (hk : k + l + 1 ≤ cap) (hq : q ≠ 0) (h : Rp (k + l) (ratOf (p / q)) (p / q) → K (ratOf (p / q)) none) : detW2 (rational_Div_W a b) K :=
  ⟨_, _, div_p ha hb hk (fun e => absurd e hq) (fun _ _ => ⟨rfl, rfl⟩), h (.of (RB_div ha.2.2 hb.2.2) (by simp only [cap] at hk ⊢; omega))⟩
theorem sign_p {a : GRat} {p : Rat} {k : Nat} {Q : Int → Prop} (ha : Rp k a p) (h : Q (sgnR p)) : rational_Sign_W a Q := by
  obtain ⟨fa, rfl, ka⟩ := ha
  exact rational_Sign_s fa h
theorem cmp_p {a b : GRat} {p q : Rat} {k l : Nat} {Q : Int → Prop} (ha : Rp k a p) (hb : Rp l b q) (hk : k + l + 1 ≤ cap) (h : Q (sgnR (p - q))) : rational_Cmp_W a b Q := by
  obtain ⟨fa, rfl, ka⟩ := ha
  obtain ⟨fb, rfl, kb⟩ := hb
  exact rational_Cmp_s fa fb ka kb hk h
theorem cmp_pd {a b : GRat} {p q : Rat} {k l : Nat} {K : Int → Prop} (ha : Rp k a p) (hb : Rp l b q) (hk : k + l + 1 ≤ cap) (h : K (sgnR (p - q))) : detW (rational_Cmp_W a b) K := ⟨_, cmp_p ha hb hk rfl, h⟩
theorem of_pd {n : Int} {K : GRat → Prop} (hn : rng n) (h : Rp 64 (ratOf (n : Rat)) (n : Rat) → K (ratOf (n : Rat))) : detW (rational_Of_W n) K := ⟨_, rational_Of_s hn rfl, h (.of (RB_of_int hn) (by decide))⟩
end Go.Gg
/- Decision diagrams: the functions of their references, and that a reduced ordered list of nodes has each function once. Conditions: none. -/
namespace Go.Gg
abbrev Asg := Nat → Bool
def setA (σ : Asg) (v : Nat) (b : Bool) : Asg := fun i => if i = v then b else σ i
theorem setA_same {σ : Asg} {v : Nat} {b : Bool} : setA σ v b v = b := by simp [setA]
theorem setA_ne {σ : Asg} {v i : Nat} {b : Bool} (h : i ≠ v) : setA σ v b i = σ i := by simp [setA, h]
theorem setA_id {σ : Asg} {v : Nat} : setA σ v (σ v) = σ := by
  funext i
  by_cases h : i = v
  · subst h; exact setA_same
  · exact setA_ne h
theorem snocInd {α : Type} {P : List α → Prop} (h0 : P []) (h1 : ∀ l x, P l → P (l ++ [x])) (l : List α) : P l := by
  have h : ∀ m : List α, P m.reverse := by
    intro m
    induction m with
    | nil => exact h0
    | cons x m ih => rw [List.reverse_cons]; exact h1 _ _ ih
  have := h l.reverse
  rwa [List.reverse_reverse] at this
/-- The values of all references in a state, those of the constants first. -/
def dvals (N : List GDNode) (σ : Asg) : List Bool := N.foldl (fun acc x => acc ++ [bif σ x.Var.toNat then acc.getD x.Hi.toNat false else acc.getD x.Lo.toNat false]) [false, true]
def den (N : List GDNode) (σ : Asg) (r : Nat) : Bool := (dvals N σ).getD r false
theorem dvals_snoc {N : List GDNode} {x : GDNode} {σ : Asg} : dvals (N ++ [x]) σ = dvals N σ ++ [bif σ x.Var.toNat then den N σ x.Hi.toNat else den N σ x.Lo.toNat] := by
  simp [dvals, den, List.foldl_append]
theorem dvals_len {σ : Asg} (N : List GDNode) : (dvals N σ).length = 2 + N.length := by
  induction N using snocInd with
  | h0 => rfl
  | h1 N x ih => rw [dvals_snoc, List.length_append, ih, List.length_append]; simp; omega
theorem den_snoc {N : List GDNode} {x : GDNode} {σ : Asg} {r : Nat} (h : r < 2 + N.length) : den (N ++ [x]) σ r = den N σ r := by
  unfold den
  rw [dvals_snoc, List.getD_eq_getElem?_getD, List.getD_eq_getElem?_getD, List.getElem?_append_left (by rw [dvals_len]; exact h)]
theorem den_app {σ : Asg} {r : Nat} {N : List GDNode} (M : List GDNode) (h : r < 2 + N.length) : den (N ++ M) σ r = den N σ r := by
  induction M using snocInd with
  | h0 => simp
  | h1 M x ih => rw [← List.append_assoc, den_snoc (by rw [List.length_append]; omega), ih]
theorem den_last {N : List GDNode} {x : GDNode} {σ : Asg} : den (N ++ [x]) σ (2 + N.length) = bif σ x.Var.toNat then den N σ x.Hi.toNat else den N σ x.Lo.toNat := by
  conv => lhs; unfold den
  rw [dvals_snoc, List.getD_eq_getElem?_getD, List.getElem?_append_right (by rw [dvals_len]; omega), dvals_len]
  simp
theorem den_node {N : List GDNode} {i : Nat} {x : GDNode} {σ : Asg} (hx : N[i]? = some x) (hl : x.Lo.toNat < 2 + i) (hh : x.Hi.toNat < 2 + i) : den N σ (2 + i) = bif σ x.Var.toNat then den N σ x.Hi.toNat else den N σ x.Lo.toNat := by
  obtain ⟨hi, rfl⟩ := List.getElem?_eq_some_iff.1 hx
  have hlen : (N.take i).length = i := by simp; omega
  have e : N = (N.take i ++ [N[i]]) ++ N.drop (i + 1) := by simp
  have hd : ∀ r, r < 2 + i → den N σ r = den (N.take i) σ r := fun r hr => by
    conv => lhs; rw [e]
    rw [den_app _ (by rw [List.length_append, hlen]; omega), den_snoc (by rw [hlen]; exact hr)]
  rw [hd _ hl, hd _ hh]
  conv => lhs; rw [e]
  rw [den_app _ (by rw [List.length_append, hlen]; simp)]
  have := den_last (N := N.take i) (x := N[i]) (σ := σ)
  rw [hlen] at this
  exact this
theorem den_zero {N : List GDNode} {σ : Asg} : den N σ 0 = false := by
  have := den_app (σ := σ) (r := 0) (N := []) N (by simp)
  exact this.trans rfl
theorem den_one {N : List GDNode} {σ : Asg} : den N σ 1 = true := by
  have := den_app (σ := σ) (r := 1) (N := []) N (by simp)
  exact this.trans rfl
/-- The level of a reference: constants are behind all events. -/
def lvl (n : Nat) (lev : Nat → Nat) (N : List GDNode) (r : Nat) : Nat := if r < 2 then n else match N[r - 2]? with | some x => lev x.Var.toNat | none => n
theorem lvl_lt {n : Nat} {lev : Nat → Nat} {N : List GDNode} {r : Nat} (h : r < 2) : lvl n lev N r = n := by simp [lvl, h]
theorem lvl_at {n : Nat} {lev : Nat → Nat} {N : List GDNode} {i : Nat} {x : GDNode} (h : N[i]? = some x) : lvl n lev N (2 + i) = lev x.Var.toNat := by
  have : ¬ 2 + i < 2 := by omega
  simp [lvl, this, show 2 + i - 2 = i by omega, h]
theorem lvl_app {n : Nat} {lev : Nat → Nat} {N : List GDNode} (M : List GDNode) {r : Nat} (h : r < 2 + N.length) : lvl n lev (N ++ M) r = lvl n lev N r := by
  unfold lvl
  by_cases h2 : r < 2
  · rw [if_pos h2, if_pos h2]
  · rw [if_neg h2, if_neg h2, List.getElem?_append_left (by omega)]
structure LV (n : Nat) (lev : Nat → Nat) : Prop where
  inj : ∀ i j, i < n → j < n → lev i = lev j → i = j
  lt : ∀ i, i < n → lev i < n
structure Nd (n : Nat) (lev : Nat → Nat) (N : List GDNode) (i : Nat) (x : GDNode) : Prop where
  var : 0 ≤ x.Var ∧ x.Var < n
  lo : 0 ≤ x.Lo ∧ x.Lo < 2 + i
  hi : 0 ≤ x.Hi ∧ x.Hi < 2 + i
  ne : x.Lo ≠ x.Hi
  llo : lev x.Var.toNat < lvl n lev N x.Lo.toNat
  lhi : lev x.Var.toNat < lvl n lev N x.Hi.toNat
/-- Reduced ordered nodes, each once. -/
structure WT (n : Nat) (lev : Nat → Nat) (N : List GDNode) : Prop where
  nd : ∀ (i : Nat) (x : GDNode), N[i]? = some x → Nd n lev N i x
  dis : ∀ (i j : Nat) (x : GDNode), N[i]? = some x → N[j]? = some x → i = j
section
variable {n : Nat} {lev : Nat → Nat} {N : List GDNode}
theorem WT.nil : WT n lev [] := ⟨fun i x h => by simp at h, fun i j x h => by simp at h⟩
/-- What a reference is: a constant, or a node. -/
theorem ref_cases {r : Nat} (h : r < 2 + N.length) : r = 0 ∨ r = 1 ∨ ∃ i x, r = 2 + i ∧ N[i]? = some x := by
  by_cases h0 : r = 0
  · exact .inl h0
  by_cases h1 : r = 1
  · exact .inr (.inl h1)
  · exact .inr (.inr ⟨r - 2, N[r - 2]'(by omega), by omega, List.getElem?_eq_getElem (by omega)⟩)
theorem WT.den_at (h : WT n lev N) {i : Nat} {x : GDNode} (hx : N[i]? = some x) (σ : Asg) : den N σ (2 + i) = bif σ x.Var.toNat then den N σ x.Hi.toNat else den N σ x.Lo.toNat := by
  obtain ⟨_, b, c, _, _, _⟩ := h.nd i x hx
  exact den_node hx (by omega) (by omega)
theorem WT.den_set (h : WT n lev N) {v : Nat} {b : Bool} : ∀ {r : Nat}, r < 2 + N.length → lev v < lvl n lev N r → ∀ σ, den N (setA σ v b) r = den N σ r := by
  intro r
  induction r using Nat.strongRecOn with
  | _ r ih =>
    intro hr hv σ
    rcases ref_cases hr with rfl | rfl | ⟨i, x, rfl, hx⟩
    · rw [den_zero, den_zero]
    · rw [den_one, den_one]
    · obtain ⟨a, b', c, _, e, f⟩ := h.nd i x hx
      have hi := (List.getElem?_eq_some_iff.1 hx).1
      rw [lvl_at hx] at hv
      have hne : x.Var.toNat ≠ v := fun hc => by rw [hc] at hv; omega
      rw [h.den_at hx, h.den_at hx, setA_ne hne, ih x.Hi.toNat (by omega) (by omega) (by omega), ih x.Lo.toNat (by omega) (by omega) (by omega)]
/-- A reference with the event at its level set. -/
theorem WT.den_cof (h : WT n lev N) {i : Nat} {x : GDNode} (hx : N[i]? = some x) (σ : Asg) (b : Bool) : den N (setA σ x.Var.toNat b) (2 + i) = den N σ (bif b then x.Hi.toNat else x.Lo.toNat) := by
  obtain ⟨_, b', c, _, e, f⟩ := h.nd i x hx
  have hi := (List.getElem?_eq_some_iff.1 hx).1
  rw [h.den_at hx, setA_same]
  cases b
  · exact h.den_set (by omega) e σ
  · exact h.den_set (by omega) f σ
/-- Each function has one reference. -/
theorem WT.canon (hL : LV n lev) (h : WT n lev N) {r s : Nat} (hr : r < 2 + N.length) (hs : s < 2 + N.length) (he : ∀ σ, den N σ r = den N σ s) : r = s := by
  have key : ∀ b r s, r < b → s < b → r < 2 + N.length → s < 2 + N.length → (∀ σ, den N σ r = den N σ s) → r = s := by
    intro b
    induction b with
    | zero => intro r s h1; omega
    | succ b ih =>
      -- a node's function is none of those behind its level
      have step : ∀ i x s, N[i]? = some x → 2 + i < b + 1 → s < 2 + N.length → lev x.Var.toNat < lvl n lev N s → (∀ σ, den N σ (2 + i) = den N σ s) → False := by
        intro i x s hx hib hs hl he
        obtain ⟨a, b', c, d, e, f⟩ := h.nd i x hx
        have hi := (List.getElem?_eq_some_iff.1 hx).1
        have : x.Lo.toNat = x.Hi.toNat := ih _ _ (by omega) (by omega) (by omega) (by omega) fun σ => by
          have h1 := h.den_cof hx σ false
          have h2 := h.den_cof hx σ true
          rw [he, h.den_set hs hl] at h1 h2
          exact h1.symm.trans h2
        omega
      intro r s h1 h2 hr hs he
      rcases ref_cases hr with rfl | rfl | ⟨i, x, rfl, hx⟩
      · rcases ref_cases hs with rfl | rfl | ⟨j, y, rfl, hy⟩
        · rfl
        · have := he (fun _ => false); rw [den_zero, den_one] at this; cases this
        · exact (step j y 0 hy h2 hr (by rw [lvl_lt (by omega)]; exact hL.lt _ (by have := (h.nd j y hy).var; omega)) (fun σ => (he σ).symm)).elim
      · rcases ref_cases hs with rfl | rfl | ⟨j, y, rfl, hy⟩
        · have := he (fun _ => false); rw [den_zero, den_one] at this; cases this
        · rfl
        · exact (step j y 1 hy h2 hr (by rw [lvl_lt (by omega)]; exact hL.lt _ (by have := (h.nd j y hy).var; omega)) (fun σ => (he σ).symm)).elim
      · by_cases hl : lev x.Var.toNat < lvl n lev N s
        · exact (step i x s hx h1 hs hl he).elim
        · rcases ref_cases hs with rfl | rfl | ⟨j, y, rfl, hy⟩
          · exact (hl (by rw [lvl_lt (by omega)]; exact hL.lt _ (by have := (h.nd i x hx).var; omega))).elim
          · exact (hl (by rw [lvl_lt (by omega)]; exact hL.lt _ (by have := (h.nd i x hx).var; omega))).elim
          · by_cases hl2 : lev y.Var.toNat < lvl n lev N (2 + i)
            · exact (step j y (2 + i) hy h2 hr hl2 (fun σ => (he σ).symm)).elim
            · rw [lvl_at hx] at hl2
              rw [lvl_at hy] at hl
              obtain ⟨a, b', c, d, e, f⟩ := h.nd i x hx
              obtain ⟨a2, b2, c2, d2, e2, f2⟩ := h.nd j y hy
              have hi := (List.getElem?_eq_some_iff.1 hx).1
              have hj := (List.getElem?_eq_some_iff.1 hy).1
              have hv : x.Var.toNat = y.Var.toNat := hL.inj _ _ (by omega) (by omega) (by omega)
              have q1 : x.Lo.toNat = y.Lo.toNat := ih _ _ (by omega) (by omega) (by omega) (by omega) fun σ => by
                have p1 := h.den_cof hx σ false
                have p2 := h.den_cof hy σ false
                rw [hv, he] at p1
                exact p1.symm.trans p2
              have q2 : x.Hi.toNat = y.Hi.toNat := ih _ _ (by omega) (by omega) (by omega) (by omega) fun σ => by
                have p1 := h.den_cof hx σ true
                have p2 := h.den_cof hy σ true
                rw [hv, he] at p1
                exact p1.symm.trans p2
              have hxy : x = y := by
                cases x; cases y
                simp only [GDNode.mk.injEq]
                simp only at *
                omega
              subst hxy
              rw [h.dis i j x hx hy]
  exact key (max r s + 1) r s (by omega) (by omega) hr hs he
/-- One node more. -/
theorem WT.snoc (h : WT n lev N) {x : GDNode} (hv : 0 ≤ x.Var ∧ x.Var < n) (hlo : 0 ≤ x.Lo ∧ x.Lo < 2 + N.length) (hhi : 0 ≤ x.Hi ∧ x.Hi < 2 + N.length) (hne : x.Lo ≠ x.Hi) (h1 : lev x.Var.toNat < lvl n lev N x.Lo.toNat) (h2 : lev x.Var.toNat < lvl n lev N x.Hi.toNat)
    (hnew : x ∉ N) : WT n lev (N ++ [x]) := by
  refine ⟨fun i y hy => ?_, fun i j y hi hj => ?_⟩
  · rcases Nat.lt_or_ge i N.length with hi | hi
    · rw [List.getElem?_append_left hi] at hy
      obtain ⟨a, b, c, d, e, f⟩ := h.nd i y hy
      exact ⟨a, b, c, d, by rw [lvl_app _ (by omega)]; exact e, by rw [lvl_app _ (by omega)]; exact f⟩
    · have hil : i < (N ++ [x]).length := (List.getElem?_eq_some_iff.1 hy).1
      simp only [List.length_append, List.length_singleton] at hil
      obtain rfl : i = N.length := by omega
      rw [List.getElem?_append_right (Nat.le_refl _)] at hy
      simp at hy
      subst hy
      exact ⟨hv, hlo, hhi, hne, by rw [lvl_app _ (by omega)]; exact h1, by rw [lvl_app _ (by omega)]; exact h2⟩
  · have hil : i < (N ++ [x]).length := (List.getElem?_eq_some_iff.1 hi).1
    have hjl : j < (N ++ [x]).length := (List.getElem?_eq_some_iff.1 hj).1
    simp only [List.length_append, List.length_singleton] at hil hjl
    by_cases hi' : i < N.length
    · rw [List.getElem?_append_left hi'] at hi
      by_cases hj' : j < N.length
      · rw [List.getElem?_append_left hj'] at hj
        exact h.dis i j y hi hj
      · obtain rfl : j = N.length := by omega
        rw [List.getElem?_append_right (Nat.le_refl _)] at hj
        simp at hj
        subst hj
        exact absurd (List.mem_of_getElem? hi) hnew
    · obtain rfl : i = N.length := by omega
      rw [List.getElem?_append_right (Nat.le_refl _)] at hi
      simp at hi
      subst hi
      by_cases hj' : j < N.length
      · rw [List.getElem?_append_left hj'] at hj
        exact absurd (List.mem_of_getElem? hj) hnew
      · omega
end
end Go.Gg
namespace Go.Gg
instance : DecidableEq GDNode := fun a b => decidable_of_iff (a.Var = b.Var ∧ a.Lo = b.Lo ∧ a.Hi = b.Hi) (by cases a; cases b; simp)
/-- A node, or its kid if both kids are the same; once only. -/
def mkD (v lo hi : Nat) (N : List GDNode) : List GDNode × Nat :=
  if lo = hi then (N, lo) else if (⟨v, lo, hi⟩ : GDNode) ∈ N then (N, 2 + N.idxOf ⟨v, lo, hi⟩) else (N ++ [⟨v, lo, hi⟩], 2 + N.length)
def addF : List Nat → (Asg → Bool) → List GDNode → List GDNode × Nat
  | [], f, N => (N, if f (fun _ => false) = true then 1 else 0)
  | v :: vs, f, N => mkD v (addF vs (fun σ => f (setA σ v false)) N).2 (addF vs (fun σ => f (setA σ v true)) (addF vs (fun σ => f (setA σ v false)) N).1).2 (addF vs (fun σ => f (setA σ v true)) (addF vs (fun σ => f (setA σ v false)) N).1).1
/-- The function looks at these events only. -/
def Dep (f : Asg → Bool) (vs : List Nat) : Prop := ∀ σ σ' : Asg, (∀ v ∈ vs, σ v = σ' v) → f σ = f σ'
/-- Events with their levels. -/
structure OrdL (n : Nat) (lev : Nat → Nat) (ord : List Nat) : Prop where
  lv : LV n lev
  len : ord.length = n
  at_ : ∀ i v, ord[i]? = some v → v < n ∧ lev v = i
  of : ∀ v, v < n → ord[lev v]? = some v
theorem OrdL.drop {n : Nat} {lev : Nat → Nat} {ord : List Nat} (h : OrdL n lev ord) {v : Nat} (hv : v < n) : ord.drop (lev v) = v :: ord.drop (lev v + 1) := by
  have h1 := h.of v hv
  obtain ⟨hl, he⟩ := List.getElem?_eq_some_iff.1 h1
  rw [List.drop_eq_getElem_cons hl, he]
theorem OrdL.mem {n : Nat} {lev : Nat → Nat} {ord : List Nat} (h : OrdL n lev ord) {l v : Nat} : v ∈ ord.drop l ↔ v < n ∧ l ≤ lev v := by
  constructor
  · intro hm
    obtain ⟨i, hi⟩ := List.mem_iff_getElem?.1 hm
    rw [List.getElem?_drop] at hi
    obtain ⟨a, b⟩ := h.at_ _ _ hi
    exact ⟨a, by omega⟩
  · rintro ⟨hv, hl⟩
    refine List.mem_iff_getElem?.2 ⟨lev v - l, ?_⟩
    rw [List.getElem?_drop, show l + (lev v - l) = lev v by omega]
    exact h.of v hv
theorem Dep.sub {f : Asg → Bool} {vs ws : List Nat} (h : Dep f vs) (hs : ∀ v ∈ vs, v ∈ ws) : Dep f ws := fun σ σ' hh => h σ σ' fun v hv => hh v (hs v hv)
theorem Dep.set {f : Asg → Bool} {v : Nat} {vs : List Nat} {b : Bool} (h : Dep f (v :: vs)) : Dep (fun σ => f (setA σ v b)) vs := fun σ σ' hh => h _ _ fun w hw => by
  by_cases he : w = v
  · subst he; rw [setA_same, setA_same]
  · rw [setA_ne he, setA_ne he]; exact hh w ((List.mem_cons.1 hw).resolve_left he)
theorem Dep.not {f : Asg → Bool} {v : Nat} {vs : List Nat} (h : Dep f vs) (hv : v ∉ vs) (σ : Asg) (b : Bool) : f (setA σ v b) = f σ := h _ _ fun _w hw => setA_ne (fun he => hv (he ▸ hw))
section
variable {n : Nat} {lev : Nat → Nat} {ord : List Nat} {N : List GDNode}
/-- What a reference looks at. -/
theorem WT.dep (hO : OrdL n lev ord) (h : WT n lev N) {r : Nat} (hr : r < 2 + N.length) : Dep (fun σ => den N σ r) (ord.drop (lvl n lev N r)) := by
  induction r using Nat.strongRecOn with
  | _ r ih =>
    rcases ref_cases hr with rfl | rfl | ⟨i, x, rfl, hx⟩
    · exact fun σ σ' _ => by simp only [den_zero]
    · exact fun σ σ' _ => by simp only [den_one]
    · obtain ⟨a, b, c, d, e, f⟩ := h.nd i x hx
      have hi := (List.getElem?_eq_some_iff.1 hx).1
      intro σ σ' hh
      rw [lvl_at hx] at hh
      simp only [h.den_at hx]
      rw [hh x.Var.toNat (hO.mem.2 ⟨by omega, Nat.le_refl _⟩)]
      have q1 := ih x.Lo.toNat (by omega) (by omega) σ σ' (fun v hv => hh v (hO.mem.2 ⟨(hO.mem.1 hv).1, by have := (hO.mem.1 hv).2; omega⟩))
      have q2 := ih x.Hi.toNat (by omega) (by omega) σ σ' (fun v hv => hh v (hO.mem.2 ⟨(hO.mem.1 hv).1, by have := (hO.mem.1 hv).2; omega⟩))
      simp only at q1 q2
      rw [q1, q2]
theorem WT.top (hO : OrdL n lev ord) (h : WT n lev N) {i : Nat} {x : GDNode} (hx : N[i]? = some x) (hd : ∀ σ b, den N (setA σ x.Var.toNat b) (2 + i) = den N σ (2 + i)) : False := by
  obtain ⟨a, b, c, d, e, f⟩ := h.nd i x hx
  have hi := (List.getElem?_eq_some_iff.1 hx).1
  have := h.canon hO.lv (r := x.Lo.toNat) (s := x.Hi.toNat) (by omega) (by omega) fun σ => by
    have h1 := h.den_cof hx σ false
    have h2 := h.den_cof hx σ true
    rw [hd] at h1 h2
    exact h1.symm.trans h2
  omega
/-- A reference's level, by what its function looks at. -/
theorem WT.lvl_ge (hO : OrdL n lev ord) (h : WT n lev N) {r l : Nat} (hr : r < 2 + N.length) (hl : l ≤ n) (hd : Dep (fun σ => den N σ r) (ord.drop l)) : l ≤ lvl n lev N r := by
  rcases ref_cases hr with rfl | rfl | ⟨i, x, rfl, hx⟩
  · rw [lvl_lt (by omega)]; exact hl
  · rw [lvl_lt (by omega)]; exact hl
  · rw [lvl_at hx]
    rcases Nat.lt_or_ge (lev x.Var.toNat) l with hlt | hge
    · exfalso
      refine h.top hO hx fun σ b => hd.not (fun hm => ?_) σ b
      have := (hO.mem.1 hm).2
      omega
    · exact hge
/-- A function that has a reference is not added. -/
theorem addF_rep (hO : OrdL n lev ord) (h : WT n lev N) : ∀ (k l : Nat), l + k = n → ∀ {f : Asg → Bool} {r : Nat}, Dep f (ord.drop l) → r < 2 + N.length → (∀ σ, den N σ r = f σ) → addF (ord.drop l) f N = (N, r)
  | 0, l, hk, f, r, hd, hr, hf => by
    have e : ord.drop l = [] := List.drop_eq_nil_of_le (by rw [hO.len]; omega)
    rw [e] at hd ⊢
    have hc : ∀ σ, den N σ r = f (fun _ => false) := fun σ => (hf σ).trans (hd _ _ (fun v hv => by simp at hv))
    rw [addF]
    cases hb : f (fun _ => false) with
    | true =>
      rw [if_pos rfl, h.canon hO.lv (r := r) (s := 1) hr (by omega) (fun σ => by rw [hc, hb, den_one])]
    | false =>
      rw [if_neg (by simp), h.canon hO.lv (r := r) (s := 0) hr (by omega) (fun σ => by rw [hc, hb, den_zero])]
  | k + 1, l, hk, f, r, hd, hr, hf => by
    have hl : l < ord.length := by rw [hO.len]; omega
    have hdr : ord.drop l = ord[l] :: ord.drop (l + 1) := List.drop_eq_getElem_cons hl
    generalize hv : ord[l] = v at hdr
    have hat := hO.at_ l v (by rw [List.getElem?_eq_getElem hl, hv])
    rw [hdr] at hd ⊢
    have hdN : Dep (fun σ => den N σ r) (ord.drop l) := by
      rw [hdr]
      exact fun σ σ' hh => by simp only [hf]; exact hd σ σ' hh
    have hge := h.lvl_ge hO hr (by omega) hdN
    rw [addF]
    by_cases hlt : l < lvl n lev N r
    · have hfs : ∀ b σ, den N σ r = f (setA σ v b) := fun b σ => by
        rw [← hf, h.den_set hr (by rw [hat.2]; exact hlt)]
      rw [addF_rep hO h k (l + 1) (by omega) (r := r) hd.set hr (hfs false), addF_rep hO h k (l + 1) (by omega) (r := r) hd.set hr (hfs true)]
      simp [mkD]
    · have hle : lvl n lev N r = l := by omega
      rcases ref_cases hr with rfl | rfl | ⟨i, x, rfl, hx⟩
      · rw [lvl_lt (by omega)] at hle; omega
      · rw [lvl_lt (by omega)] at hle; omega
      · obtain ⟨a, b, c, d, e, f'⟩ := h.nd i x hx
        have hi := (List.getElem?_eq_some_iff.1 hx).1
        rw [lvl_at hx] at hle
        have hxv : x.Var.toNat = v := hO.lv.inj _ _ (by omega) hat.1 (by rw [hle, hat.2])
        have h1 : ∀ σ, den N σ x.Lo.toNat = f (setA σ v false) := fun σ => by rw [← hf, ← hxv]; exact (h.den_cof hx σ false).symm
        have h2 : ∀ σ, den N σ x.Hi.toNat = f (setA σ v true) := fun σ => by rw [← hf, ← hxv]; exact (h.den_cof hx σ true).symm
        rw [addF_rep hO h k (l + 1) (by omega) (r := x.Lo.toNat) hd.set (by omega) h1, addF_rep hO h k (l + 1) (by omega) (r := x.Hi.toNat) hd.set (by omega) h2]
        have hxe : (⟨(v : Int), ((x.Lo.toNat : Nat) : Int), ((x.Hi.toNat : Nat) : Int)⟩ : GDNode) = x := by
          cases x
          simp only [GDNode.mk.injEq]
          simp only at *
          omega
        have hm : x ∈ N := List.mem_of_getElem? hx
        have hix : N.idxOf x = i := by
          have hlt' : N.idxOf x < N.length := List.idxOf_lt_length_of_mem hm
          exact h.dis _ _ x (by rw [List.getElem?_eq_getElem hlt', List.getElem_idxOf]) hx
        simp only [mkD]
        rw [if_neg (by omega), hxe, if_pos hm, hix]
/-- What adding a function gives. -/
theorem addF_spec (hO : OrdL n lev ord) : ∀ (k l : Nat), l + k = n → ∀ {f : Asg → Bool} {N : List GDNode}, WT n lev N → Dep f (ord.drop l) →
    WT n lev (addF (ord.drop l) f N).1 ∧ (∃ M, (addF (ord.drop l) f N).1 = N ++ M) ∧ (addF (ord.drop l) f N).2 < 2 + (addF (ord.drop l) f N).1.length ∧ ∀ σ, den (addF (ord.drop l) f N).1 σ (addF (ord.drop l) f N).2 = f σ
  | 0, l, hk, f, N, h, hd => by
    have e : ord.drop l = [] := List.drop_eq_nil_of_le (by rw [hO.len]; omega)
    rw [e] at hd ⊢
    rw [addF]
    refine ⟨h, ⟨[], by simp⟩, ?_, fun σ => ?_⟩
    · simp only; split <;> omega
    · simp only
      rw [hd σ (fun _ => false) (fun v hv => by simp at hv)]
      split
      · rename_i hb; rw [den_one, hb]
      · rename_i hb; rw [den_zero]; simpa using hb
  | k + 1, l, hk, f, N, h, hd => by
    have hl : l < ord.length := by rw [hO.len]; omega
    have hdr : ord.drop l = ord[l] :: ord.drop (l + 1) := List.drop_eq_getElem_cons hl
    generalize hv : ord[l] = v at hdr
    have hat := hO.at_ l v (by rw [List.getElem?_eq_getElem hl, hv])
    rw [hdr] at hd ⊢
    obtain ⟨a1, ⟨M1, a2⟩, a3, a4⟩ := addF_spec hO k (l + 1) (by omega) (f := fun σ => f (setA σ v false)) h hd.set
    generalize hA : addF (ord.drop (l + 1)) (fun σ => f (setA σ v false)) N = A at a1 a2 a3 a4
    obtain ⟨b1, ⟨M2, b2⟩, b3, b4⟩ := addF_spec hO k (l + 1) (by omega) (f := fun σ => f (setA σ v true)) a1 hd.set
    generalize hB : addF (ord.drop (l + 1)) (fun σ => f (setA σ v true)) A.1 = B at b1 b2 b3 b4
    rw [addF, hA, hB]
    have a3' : A.2 < 2 + B.1.length := by rw [b2, List.length_append]; omega
    have a4' : ∀ σ, den B.1 σ A.2 = f (setA σ v false) := fun σ => by rw [b2, den_app _ a3, a4]
    have hla : l + 1 ≤ lvl n lev B.1 A.2 := b1.lvl_ge hO a3' (by omega) (fun σ σ' hh => by simp only [a4']; exact hd.set σ σ' hh)
    have hlb : l + 1 ≤ lvl n lev B.1 B.2 := b1.lvl_ge hO b3 (by omega) (fun σ σ' hh => by simp only [b4]; exact hd.set σ σ' hh)
    have hdec : ∀ σ, f σ = bif σ v then f (setA σ v true) else f (setA σ v false) := fun σ => by
      cases hs : σ v
      · rw [show setA σ v false = σ by rw [← hs]; exact setA_id]; rfl
      · rw [show setA σ v true = σ by rw [← hs]; exact setA_id]; rfl
    unfold mkD
    split
    · rename_i heq
      refine ⟨b1, ⟨M1 ++ M2, by rw [b2, a2, List.append_assoc]⟩, a3', fun σ => ?_⟩
      rw [hdec]
      cases hs : σ v
      · exact a4' σ
      · have := b4 σ; rw [← heq] at this; exact this
    · rename_i hne
      have hval : ∀ (N' : List GDNode) (i : Nat) σ, N'[i]? = some (⟨(v : Int), (A.2 : Int), (B.2 : Int)⟩ : GDNode) → (∃ M, N' = B.1 ++ M) → A.2 < 2 + i → B.2 < 2 + i → den N' σ (2 + i) = f σ := by
        rintro N' i σ hi ⟨M, rfl⟩ ha hb
        rw [den_node hi (by simpa using ha) (by simpa using hb)]
        simp only [Int.toNat_natCast]
        rw [den_app _ a3', den_app _ b3, a4', b4]
        exact (hdec σ).symm
      split
      · rename_i hm
        have hlt : B.1.idxOf (⟨(v : Int), (A.2 : Int), (B.2 : Int)⟩ : GDNode) < B.1.length := List.idxOf_lt_length_of_mem hm
        have hget : B.1[B.1.idxOf (⟨(v : Int), (A.2 : Int), (B.2 : Int)⟩ : GDNode)]? = some (⟨(v : Int), (A.2 : Int), (B.2 : Int)⟩ : GDNode) := by rw [List.getElem?_eq_getElem hlt, List.getElem_idxOf]
        obtain ⟨_, c1, c2, _⟩ := b1.nd _ _ hget
        simp only at c1 c2
        exact ⟨b1, ⟨M1 ++ M2, by rw [b2, a2, List.append_assoc]⟩, by simp only; omega, fun σ => hval B.1 _ σ hget ⟨[], by simp⟩ (by omega) (by omega)⟩
      · rename_i hm
        refine ⟨b1.snoc ⟨by simp, by simp only; omega⟩ ⟨by simp, by simp only; omega⟩ ⟨by simp, by simp only; omega⟩ (by simp only; omega) (by simp only [Int.toNat_natCast]; rw [hat.2]; omega) (by simp only [Int.toNat_natCast]; rw [hat.2]; omega) hm,
          ⟨M1 ++ M2 ++ [⟨(v : Int), (A.2 : Int), (B.2 : Int)⟩], by rw [b2, a2]; simp⟩, by simp, fun σ => hval _ _ σ (by simp) ⟨_, rfl⟩ a3' b3⟩
/-- Events that a function does not look at are passed over. -/
theorem addF_skip (hO : OrdL n lev ord) (h : WT n lev N) {f : Asg → Bool} {l : Nat} (hl : l < n) (hd : Dep f (ord.drop (l + 1))) : addF (ord.drop l) f N = addF (ord.drop (l + 1)) f N := by
  have hl' : l < ord.length := by rw [hO.len]; omega
  have hdr : ord.drop l = ord[l] :: ord.drop (l + 1) := List.drop_eq_getElem_cons hl'
  generalize hv : ord[l] = v at hdr
  have hat := hO.at_ l v (by rw [List.getElem?_eq_getElem hl', hv])
  have hf : ∀ b, (fun σ => f (setA σ v b)) = f := fun b => by
    funext σ
    exact hd.not (fun hm => by have := (hO.mem.1 hm).2; omega) σ b
  obtain ⟨a1, _, a3, a4⟩ := addF_spec hO (n - (l + 1)) (l + 1) (by omega) h hd
  rw [hdr, addF, hf, hf, addF_rep hO a1 (n - (l + 1)) (l + 1) (by omega) hd a3 a4]
  simp [mkD]
theorem addF_skips (hO : OrdL n lev ord) (h : WT n lev N) {f : Asg → Bool} : ∀ (k l : Nat), l + k ≤ n → Dep f (ord.drop (l + k)) → addF (ord.drop l) f N = addF (ord.drop (l + k)) f N
  | 0, l, _, _ => rfl
  | k + 1, l, hk, hd => by
    rw [addF_skip hO h (by omega) (hd.sub fun v hv => hO.mem.2 ⟨(hO.mem.1 hv).1, by have := (hO.mem.1 hv).2; omega⟩), addF_skips hO h k (l + 1) (by omega) (by rw [show l + 1 + k = l + (k + 1) by omega]; exact hd), show l + 1 + k = l + (k + 1) by omega]
/-- A node's function is added by its two halves. -/
theorem addF_node (hO : OrdL n lev ord) (h : WT n lev N) {f : Asg → Bool} {v : Nat} (hv : v < n) (hd : Dep f (ord.drop (lev v))) :
    addF ord f N = mkD v (addF ord (fun σ => f (setA σ v false)) N).2 (addF ord (fun σ => f (setA σ v true)) (addF ord (fun σ => f (setA σ v false)) N).1).2 (addF ord (fun σ => f (setA σ v true)) (addF ord (fun σ => f (setA σ v false)) N).1).1 := by
  have hlt := hO.lv.lt v hv
  have hd2 : ∀ b, Dep (fun σ => f (setA σ v b)) (ord.drop (lev v + 1)) := fun b => by
    rw [hO.drop hv] at hd
    exact hd.set
  have e : ∀ (g : Asg → Bool) (N : List GDNode), WT n lev N → Dep g (ord.drop (lev v + 1)) → addF ord g N = addF (ord.drop (lev v + 1)) g N := fun g N hN hg => by
    have := addF_skips hO hN (f := g) (lev v + 1) 0 (by omega) (by simpa using hg)
    simpa using this
  have h0 : addF ord f N = addF (ord.drop (lev v)) f N := by
    have := addF_skips hO h (f := f) (lev v) 0 (by omega) (by simpa using hd)
    simpa using this
  obtain ⟨a1, _⟩ := addF_spec hO (n - (lev v + 1)) (lev v + 1) (by omega) h (hd2 false)
  rw [h0, hO.drop hv, addF, e _ N h (hd2 false), e _ _ a1 (hd2 true)]
/-- The whole order. -/
theorem addF_all (hO : OrdL n lev ord) (h : WT n lev N) {f : Asg → Bool} (hd : Dep f ord) : WT n lev (addF ord f N).1 ∧ (∃ M, (addF ord f N).1 = N ++ M) ∧ (addF ord f N).2 < 2 + (addF ord f N).1.length ∧ ∀ σ, den (addF ord f N).1 σ (addF ord f N).2 = f σ := by
  have := addF_spec hO n 0 (by omega) (f := f) h (by simpa using hd)
  simpa using this
theorem addF_has (hO : OrdL n lev ord) (h : WT n lev N) {f : Asg → Bool} {r : Nat} (hd : Dep f ord) (hr : r < 2 + N.length) (hf : ∀ σ, den N σ r = f σ) : addF ord f N = (N, r) := by
  have := addF_rep hO h n 0 (by omega) (f := f) (r := r) (by simpa using hd) hr hf
  simpa using this
end
end Go.Gg
namespace Go.Gg
/-- The kids of nodes stand ahead of them. -/
def Kids (N : List GDNode) : Prop := ∀ (i : Nat) (x : GDNode), N[i]? = some x → (0 ≤ x.Lo ∧ x.Lo < 2 + i) ∧ 0 ≤ x.Hi ∧ x.Hi < 2 + i
/-- References in the order of a depth-first walk, behind those before. -/
def numb (N : List GDNode) : Nat → Nat → List Int → List Int
  | 0, _, b => b
  | fu + 1, r, b => if r < 2 ∨ (r : Int) ∈ b then b else match N[r - 2]? with
    | none => b
    | some x => numb N fu x.Hi.toNat (numb N fu x.Lo.toNat b) ++ [(r : Int)]
def numR (N : List GDNode) (r : Nat) (b : List Int) : List Int := numb N (r + 1) r b
section
variable {N : List GDNode}
theorem numb_fuel (hK : Kids N) : ∀ (r fu fu' : Nat) (b : List Int), r < fu → r < fu' → numb N fu r b = numb N fu' r b := by
  intro r
  induction r using Nat.strongRecOn with
  | _ r ih =>
    intro fu fu' b h h'
    obtain ⟨g, rfl⟩ : ∃ g, fu = g + 1 := ⟨fu - 1, by omega⟩
    obtain ⟨g', rfl⟩ : ∃ g, fu' = g + 1 := ⟨fu' - 1, by omega⟩
    rw [numb, numb]
    by_cases hc : r < 2 ∨ (r : Int) ∈ b
    · rw [if_pos hc, if_pos hc]
    · rw [if_neg hc, if_neg hc]
      cases hx : N[r - 2]? with
      | none => rfl
      | some x =>
        have hk := hK _ x hx
        simp only
        rw [ih x.Lo.toNat (by omega) g g' b (by omega) (by omega), ih x.Hi.toNat (by omega) g g' _ (by omega) (by omega)]
theorem numR_old {r : Nat} {b : List Int} (h : r < 2 ∨ (r : Int) ∈ b) : numR N r b = b := by rw [numR, numb, if_pos h]
theorem numR_node (hK : Kids N) {i : Nat} {x : GDNode} {b : List Int} (hx : N[i]? = some x) (h : ((2 + i : Nat) : Int) ∉ b) : numR N (2 + i) b = numR N x.Hi.toNat (numR N x.Lo.toNat b) ++ [((2 + i : Nat) : Int)] := by
  have hk := hK _ x hx
  conv => lhs; unfold numR
  rw [numb, if_neg (by intro hc; rcases hc with hc | hc; omega; exact h hc), show 2 + i - 2 = i by omega, hx]
  simp only
  rw [numb_fuel hK x.Lo.toNat (2 + i) (x.Lo.toNat + 1) b (by omega) (by omega), numb_fuel hK x.Hi.toNat (2 + i) (x.Hi.toNat + 1) _ (by omega) (by omega)]
  rfl
theorem numR_ext (hK : Kids N) : ∀ (r : Nat) (b : List Int), ∃ c, numR N r b = b ++ c ∧ ∀ q ∈ c, 2 ≤ q ∧ q ≤ r := by
  intro r
  induction r using Nat.strongRecOn with
  | _ r ih =>
    intro b
    by_cases hc : r < 2 ∨ (r : Int) ∈ b
    · exact ⟨[], by rw [numR_old hc]; simp, by simp⟩
    · obtain ⟨i, rfl⟩ : ∃ i, r = 2 + i := ⟨r - 2, by omega⟩
      cases hx : N[i]? with
      | none =>
        refine ⟨[], ?_, by simp⟩
        rw [numR, numb, if_neg hc, show 2 + i - 2 = i by omega, hx]
        simp
      | some x =>
        have hk := hK _ x hx
        obtain ⟨c1, h1, k1⟩ := ih x.Lo.toNat (by omega) b
        obtain ⟨c2, h2, k2⟩ := ih x.Hi.toNat (by omega) (b ++ c1)
        refine ⟨c1 ++ c2 ++ [((2 + i : Nat) : Int)], ?_, fun q hq => ?_⟩
        · rw [numR_node hK hx (fun hm => hc (.inr hm)), h1, h2]; simp
        · simp only [List.mem_append, List.mem_singleton] at hq
          rcases hq with (hq | hq) | rfl
          · have := k1 q hq; omega
          · have := k2 q hq; omega
          · omega
/-- The references of the first nodes. -/
def upto (k : Nat) : List Int := (List.range k).map fun i => ((2 + i : Nat) : Int)
theorem mem_upto {k : Nat} {q : Int} : q ∈ upto k ↔ 2 ≤ q ∧ q < 2 + k := by
  simp only [upto, List.mem_map, List.mem_range]
  constructor
  · rintro ⟨i, hi, rfl⟩; omega
  · rintro ⟨h1, h2⟩; exact ⟨(q - 2).toNat, by omega, by omega⟩
theorem upto_len {k : Nat} : (upto k).length = k := by simp [upto]
theorem upto_pre {k : Nat} {l m : List Int} (h : l ++ m = upto k) : l = upto l.length := by
  have h1 : l = (upto k).take l.length := by rw [← h]; simp
  have hlen : l.length ≤ k := by have := congrArg List.length h; simp [upto_len] at this; omega
  rw [h1]
  simp only [upto, List.length_map, List.length_range, ← List.map_take, List.take_range, Nat.min_eq_left hlen]
theorem upto_succ {k : Nat} : upto (k + 1) = upto k ++ [((2 + k : Nat) : Int)] := by simp [upto, List.range_succ]
variable {n : Nat} {lev : Nat → Nat} {ord : List Nat}
theorem WT.kids (h : WT n lev N) : Kids N := fun i x hx => ⟨(h.nd i x hx).lo, (h.nd i x hx).hi⟩
theorem WT.take (h : WT n lev N) (k : Nat) : WT n lev (N.take k) := by
  have sub : ∀ i x, (N.take k)[i]? = some x → N[i]? = some x ∧ i < k ∧ i < N.length := fun i x hx => by
    rw [List.getElem?_take] at hx
    split at hx
    · exact ⟨hx, by assumption, (List.getElem?_eq_some_iff.1 hx).1⟩
    · cases hx
  have hlv : ∀ r, r < 2 + (N.take k).length → lvl n lev (N.take k) r = lvl n lev N r := fun r hr => by
    conv => rhs; rw [← List.take_append_drop k N]
    exact (lvl_app _ hr).symm
  refine ⟨fun i x hx => ?_, fun i j x hi hj => h.dis i j x (sub i x hi).1 (sub j x hj).1⟩
  obtain ⟨h1, h2, h3⟩ := sub i x hx
  obtain ⟨a, b, c, d, e, f⟩ := h.nd i x h1
  have hl : i < (N.take k).length := by simp; omega
  exact ⟨a, b, c, d, by rw [hlv _ (by omega)]; exact e, by rw [hlv _ (by omega)]; exact f⟩
theorem den_take {k r : Nat} {σ : Asg} (h : r < 2 + (N.take k).length) : den (N.take k) σ r = den N σ r := by
  conv => rhs; rw [← List.take_append_drop k N]
  exact (den_app _ h).symm
/-- Nodes that are numbered by a walk are those that adding their function gives. -/
theorem numb_addF (hO : OrdL n lev ord) (h : WT n lev N) : ∀ (r k k' : Nat), r < 2 + N.length → k ≤ N.length → k' ≤ N.length → numR N r (upto k) = upto k' → addF ord (fun σ => den N σ r) (N.take k) = (N.take k', r) := by
  have hdep : ∀ r, r < 2 + N.length → Dep (fun σ => den N σ r) ord := fun r hr => (h.dep hO hr).sub fun v hv => List.mem_of_mem_drop hv
  intro r
  induction r using Nat.strongRecOn with
  | _ r ih =>
    intro k k' hr hk hk' hn
    by_cases hc : r < 2 ∨ (r : Int) ∈ upto k
    · rw [numR_old hc] at hn
      obtain rfl : k = k' := by have := congrArg List.length hn; simpa [upto_len] using this
      have hr' : r < 2 + (N.take k).length := by
        rcases hc with hc | hc
        · omega
        · have := mem_upto.1 hc
          simp; omega
      exact addF_has hO (h.take k) (hdep r hr) hr' (fun σ => den_take hr')
    · rcases ref_cases hr with rfl | rfl | ⟨i, x, rfl, hx⟩
      · exact (hc (.inl (by omega))).elim
      · exact (hc (.inl (by omega))).elim
      · have hnode := numR_node h.kids hx (fun hm => hc (.inr hm))
        rw [hn] at hnode
        obtain ⟨a, b, c, d, e, f⟩ := h.nd i x hx
        have hi := (List.getElem?_eq_some_iff.1 hx).1
        obtain ⟨m, rfl⟩ : ∃ m, k' = m + 1 := by
          cases k' with
          | zero => simp [upto] at hnode
          | succ m => exact ⟨m, rfl⟩
        rw [upto_succ] at hnode
        obtain ⟨h1, h2⟩ := List.append_inj' hnode (by simp)
        obtain rfl : i = m := by simp at h2; omega
        obtain ⟨c1, e1, _⟩ := numR_ext h.kids x.Lo.toNat (upto k)
        obtain ⟨c2, e2, _⟩ := numR_ext h.kids x.Hi.toNat (numR N x.Lo.toNat (upto k))
        rw [e2] at h1
        have hp := upto_pre h1.symm
        generalize hk1 : (numR N x.Lo.toNat (upto k)).length = k1 at hp
        have hk1' : k1 ≤ i := by
          have := congrArg List.length h1
          simp [upto_len] at this
          omega
        have r1 := ih x.Lo.toNat (by omega) k k1 (by omega) hk (by omega) hp
        have r2 := ih x.Hi.toNat (by omega) k1 i (by omega) (by omega) (by omega) (by rw [← hp, e2]; exact h1.symm)
        have hv : x.Var.toNat < n := by omega
        have hdn : Dep (fun σ => den N σ (2 + i)) (ord.drop (lev x.Var.toNat)) := by
          have := h.dep hO hr
          rw [lvl_at hx] at this
          exact this
        rw [addF_node hO (h.take k) hv hdn]
        have f1 : (fun σ => den N (setA σ x.Var.toNat false) (2 + i)) = fun σ => den N σ x.Lo.toNat := by funext σ; exact h.den_cof hx σ false
        have f2 : (fun σ => den N (setA σ x.Var.toNat true) (2 + i)) = fun σ => den N σ x.Hi.toNat := by funext σ; exact h.den_cof hx σ true
        rw [f1, f2, r1, r2]
        have hxe : (⟨(x.Var.toNat : Int), ((x.Lo.toNat : Nat) : Int), ((x.Hi.toNat : Nat) : Int)⟩ : GDNode) = x := by
          cases x
          simp only [GDNode.mk.injEq]
          simp only at *
          omega
        have hnm : x ∉ N.take i := fun hm => by
          obtain ⟨j, hj⟩ := List.mem_iff_getElem?.1 hm
          rw [List.getElem?_take] at hj
          split at hj
          · have := h.dis i j x hx hj; omega
          · cases hj
        simp only [mkD]
        rw [if_neg (by omega), hxe, if_neg hnm]
        rw [Prod.mk.injEq]
        refine ⟨?_, by simp; omega⟩
        rw [List.take_add_one, hx]
        rfl
end
end Go.Gg
namespace Go.Gg
theorem mget_put {V : Type} {m : GMap V} {k q : List Int} {v : V} : mget (mput m k v) q = if q = k then some v else mget m q := rfl
theorem mget_put1 {V : Type} {m : GMap V} {k q : Int} {v : V} : mget (mput m [k] v) [q] = if q = k then some v else mget m [q] := by
  rw [mget_put]
  by_cases h : q = k
  · subst h; rw [if_pos rfl, if_pos rfl]
  · rw [if_neg h, if_neg (fun hc => h (by simpa using hc))]
theorem mget_new {V : Type} {q : List Int} : mget (mnew : GMap V) q = none := rfl
section
variable {n : Nat} {lev : Nat → Nat} {ord : List Nat}
/-- References that have been brought over. -/
structure EX (n : Nat) (lev : Nat → Nat) (T : List GDNode) (refs : GMap Int) (N : List GDNode) : Prop where
  wt : WT n lev N
  c0 : mget refs [0] = some 0
  c1 : mget refs [1] = some 1
  sound : ∀ r x, mget refs [r] = some x → 0 ≤ r ∧ r.toNat < 2 + T.length ∧ 0 ≤ x ∧ x.toNat < 2 + N.length ∧ ∀ σ, den N σ x.toNat = den T σ r.toNat
  onto : ∀ i, i < N.length → ∃ r, mget refs [r] = some ((2 + i : Nat) : Int)
variable {T N : List GDNode} {refs : GMap Int}
theorem WT.dep_all (hO : OrdL n lev ord) (h : WT n lev N) {r : Nat} (hr : r < 2 + N.length) : Dep (fun σ => den N σ r) ord := (h.dep hO hr).sub fun _ hv => List.mem_of_mem_drop hv
theorem EX.start : EX n lev T (mput (mput mnew [0] 0) [1] 1) [] := by
  refine ⟨WT.nil, ?_, ?_, fun r x h => ?_, fun i hi => by simp at hi⟩
  · rw [mget_put1, if_neg (by decide), mget_put1, if_pos rfl]
  · rw [mget_put1, if_pos rfl]
  · rw [mget_put1] at h
    by_cases h1 : r = 1
    · subst h1; rw [if_pos rfl] at h; cases h
      exact ⟨by decide, by simp; omega, by decide, by simp, fun σ => by rw [show (1 : Int).toNat = 1 from rfl, den_one, den_one]⟩
    · rw [if_neg h1, mget_put1] at h
      by_cases h0 : r = 0
      · subst h0; rw [if_pos rfl] at h; cases h
        exact ⟨by decide, by simp; omega, by decide, by simp, fun σ => by rw [show (0 : Int).toNat = 0 from rfl, den_zero, den_zero]⟩
      · rw [if_neg h0, mget_new] at h; cases h
theorem EX.old (hO : OrdL n lev ord) (hT : WT n lev T) (h : EX n lev T refs N) {r x : Int} (hr : mget refs [r] = some x) : addF ord (fun σ => den T σ r.toNat) N = (N, x.toNat) := by
  obtain ⟨_, h2, _, h4, h5⟩ := h.sound r x hr
  exact addF_has hO h.wt (hT.dep_all hO h2) h4 h5
theorem EX.node (hO : OrdL n lev ord) (hT : WT n lev T) {N1 N2 : List GDNode} {refs2 : GMap Int} {i : Nat} {x : GDNode} {y1 y2 : Int} (hN : WT n lev N) (h : EX n lev T refs2 N2) (hx : T[i]? = some x) (hy1 : 0 ≤ y1) (hy2 : 0 ≤ y2)
    (e1 : addF ord (fun σ => den T σ x.Lo.toNat) N = (N1, y1.toNat)) (e2 : addF ord (fun σ => den T σ x.Hi.toNat) N1 = (N2, y2.toNat)) (hno : mget refs2 [((2 + i : Nat) : Int)] = none) :
    addF ord (fun σ => den T σ (2 + i)) N = (N2 ++ [⟨x.Var, y1, y2⟩], 2 + N2.length) ∧ EX n lev T (mput refs2 [((2 + i : Nat) : Int)] ((2 + N2.length : Nat) : Int)) (N2 ++ [⟨x.Var, y1, y2⟩]) := by
  obtain ⟨a, b, c, d, e, f⟩ := hT.nd i x hx
  have hi := (List.getElem?_eq_some_iff.1 hx).1
  have hv : x.Var.toNat < n := by omega
  have hd := hT.dep hO (r := 2 + i) (by omega)
  rw [lvl_at hx] at hd
  have f1 : (fun σ => den T (setA σ x.Var.toNat false) (2 + i)) = fun σ => den T σ x.Lo.toNat := by funext σ; exact hT.den_cof hx σ false
  have f2 : (fun σ => den T (setA σ x.Var.toNat true) (2 + i)) = fun σ => den T σ x.Hi.toNat := by funext σ; exact hT.den_cof hx σ true
  have s1 := addF_all hO hN (hT.dep_all hO (r := x.Lo.toNat) (by omega))
  rw [e1] at s1
  have s2 := addF_all hO s1.1 (hT.dep_all hO (r := x.Hi.toNat) (by omega))
  rw [e2] at s2
  obtain ⟨w1, _, l1, d1⟩ := s1
  obtain ⟨w2, ⟨M, rfl⟩, l2, d2⟩ := s2
  simp only at w1 l1 d1 w2 l2 d2
  have l1' : y1.toNat < 2 + (N1 ++ M).length := by simp; omega
  have d1' : ∀ σ, den (N1 ++ M) σ y1.toNat = den T σ x.Lo.toNat := fun σ => by rw [den_app _ l1, d1]
  have hne : y1.toNat ≠ y2.toNat := fun hc => by
    have := hT.canon hO.lv (r := x.Lo.toNat) (s := x.Hi.toNat) (by omega) (by omega) fun σ => by rw [← d1', ← d2, hc]
    omega
  have hxe : (⟨((x.Var.toNat : Nat) : Int), ((y1.toNat : Nat) : Int), ((y2.toNat : Nat) : Int)⟩ : GDNode) = ⟨x.Var, y1, y2⟩ := by
    simp only [GDNode.mk.injEq]
    omega
  have hval : ∀ (N' : List GDNode) j σ, N'[j]? = some (⟨x.Var, y1, y2⟩ : GDNode) → (∃ M', N' = (N1 ++ M) ++ M') → y1.toNat < 2 + j → y2.toNat < 2 + j → den N' σ (2 + j) = den T σ (2 + i) := by
    rintro N' j σ hj ⟨M', rfl⟩ h1 h2
    rw [den_node hj h1 h2, hT.den_at hx, den_app _ l1', den_app _ l2, d1', d2]
  have hnm : (⟨x.Var, y1, y2⟩ : GDNode) ∉ N1 ++ M := fun hm => by
    obtain ⟨j, hj⟩ := List.mem_iff_getElem?.1 hm
    have hjl := (List.getElem?_eq_some_iff.1 hj).1
    obtain ⟨_, p1, p2, _⟩ := w2.nd j _ hj
    simp only at p1 p2
    obtain ⟨r0, hr0⟩ := h.onto j hjl
    obtain ⟨q1, q2, _, _, q5⟩ := h.sound r0 _ hr0
    have := hT.canon hO.lv (r := r0.toNat) (s := 2 + i) q2 (by omega) fun σ => by
      rw [← q5, Int.toNat_natCast]
      exact hval _ j σ hj ⟨[], by simp⟩ (by omega) (by omega)
    rw [show r0 = ((2 + i : Nat) : Int) by omega, hno] at hr0
    cases hr0
  have hadd : addF ord (fun σ => den T σ (2 + i)) N = ((N1 ++ M) ++ [⟨x.Var, y1, y2⟩], 2 + (N1 ++ M).length) := by
    rw [addF_node hO hN hv hd, f1, f2, e1, e2]
    simp only [mkD]
    rw [if_neg hne, hxe, if_neg hnm]
  refine ⟨hadd, ?_⟩
  have s3 := addF_all hO hN (hT.dep_all hO (r := 2 + i) (by omega))
  rw [hadd] at s3
  refine ⟨s3.1, ?_, ?_, fun r y hr => ?_, fun j hj => ?_⟩
  · rw [mget_put1, if_neg (by omega)]; exact h.c0
  · rw [mget_put1, if_neg (by omega)]; exact h.c1
  · rw [mget_put1] at hr
    by_cases hri : r = ((2 + i : Nat) : Int)
    · rw [if_pos hri] at hr
      cases hr
      subst hri
      refine ⟨by omega, by rw [Int.toNat_natCast]; omega, by omega, by rw [Int.toNat_natCast]; simp, fun σ => ?_⟩
      rw [Int.toNat_natCast, Int.toNat_natCast]
      exact s3.2.2.2 σ
    · rw [if_neg hri] at hr
      obtain ⟨q1, q2, q3, q4, q5⟩ := h.sound r y hr
      exact ⟨q1, q2, q3, by rw [List.length_append]; omega, fun σ => by rw [den_app _ q4, q5]⟩
  · have hlen : ((N1 ++ M) ++ [(⟨x.Var, y1, y2⟩ : GDNode)]).length = (N1 ++ M).length + 1 := by rw [List.length_append]; rfl
    rw [hlen] at hj
    by_cases hj' : j < (N1 ++ M).length
    · obtain ⟨r, hr⟩ := h.onto j hj'
      refine ⟨r, ?_⟩
      rw [mget_put1, if_neg, hr]
      rintro rfl
      rw [hno] at hr; cases hr
    · obtain rfl : j = (N1 ++ M).length := by omega
      exact ⟨((2 + i : Nat) : Int), by rw [mget_put1, if_pos rfl]⟩
end
end Go.Gg
namespace Go.Gg
/-- A reference of a list of nodes. -/
def Vd (N : List GDNode) (r : Int) : Prop := 0 ≤ r ∧ r.toNat < 2 + N.length
/-- The function of a reference. -/
def dn (N : List GDNode) (r : Int) (σ : Asg) : Bool := den N σ r.toNat
def Pre (N N' : List GDNode) : Prop := ∃ M, N' = N ++ M
theorem Pre.refl (N : List GDNode) : Pre N N := ⟨[], by simp⟩
theorem Pre.trans {A B C : List GDNode} (h : Pre A B) (h' : Pre B C) : Pre A C := let ⟨M, a⟩ := h; let ⟨M', b⟩ := h'; ⟨M ++ M', by rw [b, a, List.append_assoc]⟩
theorem Pre.len {A B : List GDNode} (h : Pre A B) : A.length ≤ B.length := by obtain ⟨M, rfl⟩ := h; simp
theorem Vd.pre {N N' : List GDNode} {r : Int} (h : Vd N r) (hp : Pre N N') : Vd N' r := ⟨h.1, by have := h.2; have := hp.len; omega⟩
theorem dn_pre {N N' : List GDNode} {r : Int} (h : Vd N r) (hp : Pre N N') : dn N' r = dn N r := by
  obtain ⟨M, rfl⟩ := hp
  funext σ
  exact den_app M h.2
theorem Pre.lvl {n : Nat} {lev : Nat → Nat} {N N' : List GDNode} {r : Int} (h : Vd N r) (hp : Pre N N') : lvl n lev N' r.toNat = lvl n lev N r.toNat := by
  obtain ⟨M, rfl⟩ := hp
  exact lvl_app M h.2
/-- A table: its nodes, where each of them stands, choices that were made. -/
structure TB (n : Nat) (lev : Nat → Nat) (nodes : List GDNode) (unique memo : GMap Int) : Prop where
  wt : WT n lev nodes
  uq : ∀ v lo hi r, mget unique [v, lo, hi] = some r ↔ ∃ i, r = ((2 + i : Nat) : Int) ∧ nodes[i]? = some ⟨v, lo, hi⟩
  me : ∀ c a b r, mget memo [c, a, b] = some r → (Vd nodes c ∧ Vd nodes a ∧ Vd nodes b) ∧ Vd nodes r ∧ ∀ σ, dn nodes r σ = bif dn nodes c σ then dn nodes a σ else dn nodes b σ
section
variable {n : Nat} {lev : Nat → Nat} {ord : List Nat} {nodes : List GDNode} {unique memo : GMap Int}
theorem TB.nil : TB n lev [] mnew mnew := ⟨WT.nil, fun v lo hi r => ⟨fun h => by simp [mget_new] at h, fun ⟨i, _, h⟩ => by simp at h⟩, fun c a b r h => by simp [mget_new] at h⟩
end
end Go.Gg
/- The checks of a formula: the program's and the reference's functions. Conditions: the numbers fit the machine. -/
namespace Go.Gg
def argsB (k : Int) (n : Nat) : Bool := if k = 0 then decide (n = 0) else if k = 1 then decide (n = 1) else decide (1 ≤ n ∧ n ≤ 16)
/-- The number of the error of a node. -/
def nodeE (f : GFormula) (i : Nat) : Int :=
  if (at' f.Nodes (i : Int)).Kind < 0 ∨ 5 < (at' f.Nodes (i : Int)).Kind then 7
  else if argsB (at' f.Nodes (i : Int)).Kind (at' f.Nodes (i : Int)).Args.length = false then 11
  else if ∃ j < (at' f.Nodes (i : Int)).Args.length, at' (at' f.Nodes (i : Int)).Args (j : Int) < 0 ∨ f.Vars + i ≤ at' (at' f.Nodes (i : Int)).Args (j : Int) then 10
  else if (at' f.Nodes (i : Int)).Kind = 0 then (if (at' f.Nodes (i : Int)).K ≠ 0 ∧ (at' f.Nodes (i : Int)).K ≠ 1 then 3 else 0)
  else if (at' f.Nodes (i : Int)).Kind = 4 then (if (at' f.Nodes (i : Int)).K < 1 ∨ ((at' f.Nodes (i : Int)).Args.length : Int) < (at' f.Nodes (i : Int)).K then 3 else 0)
  else if (at' f.Nodes (i : Int)).K ≠ 0 then 2 else 0
def validB (f : GFormula) (a : Int) : Bool := decide (0 ≤ f.Vars ∧ 0 ≤ a ∧ (a < f.Vars ∨ a - f.Vars < f.Nodes.length))
/-- The number of the first error of a formula. -/
def chkM (f : GFormula) : Int :=
  if f.Vars < 0 ∨ 24 < f.Vars then 3 else if 128 < f.Nodes.length then 4
  else if firstE (nodeE f) f.Nodes.length ≠ 0 then firstE (nodeE f) f.Nodes.length
  else if validB f f.Top = false then 10 else 0
theorem argsB_le {k : Int} {n : Nat} (h : argsB k n = true) : n ≤ 16 := by
  unfold argsB at h
  split at h
  · simp at h; omega
  · split at h
    · simp at h; omega
    · simp at h; omega
theorem formula_arguments_s {k : Int} {n : Nat} {Q : Bool → Prop} (h : Q (argsB k n)) : formula_arguments_W k n Q := by
  unfold argsB at h
  refine condE (fun hc => ?_) (fun hc => condE (fun hc1 => ?_) (fun hc1 => condT (fun h1 => ?_) (fun h1 => ?_)))
  · rw [if_pos hc] at h
    rw [show ((n : Int) == 0) = decide (n = 0) by rw [Bool.eq_iff_iff]; simp]; exact h
  · rw [if_neg hc, if_pos hc1] at h
    rw [show ((n : Int) == 1) = decide (n = 1) by rw [Bool.eq_iff_iff]; simp; omega]; exact h
  · rw [if_neg hc, if_neg hc1] at h
    rw [show decide ((n : Int) ≤ 16) = decide (1 ≤ n ∧ n ≤ 16) from decide_eq_decide.2 (by omega)]; exact h
  · rw [if_neg hc, if_neg hc1, decide_eq_false (by omega)] at h; exact h
theorem formula_checkNode_s {f : GFormula} {i : Nat} {Q : Option Int → Prop} (hi : i < f.Nodes.length) (hV : 0 ≤ f.Vars ∧ f.Vars ≤ 24) (hn : f.Nodes.length ≤ 128) (h : Q (errO (nodeE f i))) : formula_checkNode_W f i Q := by
  unfold nodeE at h
  refine ⟨⟨by omega, by omega⟩, fun y => y = decide ((at' f.Nodes (i : Int)).Kind < 0 ∨ 5 < (at' f.Nodes (i : Int)).Kind), ?_, ?_⟩
  · exact condT (fun hc => (decide_eq_true (Or.inl hc)).symm) (fun hc => decide_eq_decide.2 ⟨Or.inr, fun hh => hh.resolve_left hc⟩)
  rintro _ rfl
  refine condT (fun hc => ?_) (fun hc => ?_)
  · rw [if_pos hc] at h; exact h
  rw [if_neg hc] at h
  refine formula_arguments_s (condB (fun hb => ?_) (fun hb => ?_))
  · rw [if_pos (by simpa using hb)] at h; exact h
  simp only [Bool.not_eq_false'] at hb
  rw [if_neg (by rw [hb]; simp)] at h
  have hl := argsB_le hb
  refine scanW (fun j => at' (at' f.Nodes (i : Int)).Args (j : Int) < 0 ∨ f.Vars + i ≤ at' (at' f.Nodes (i : Int)).Args (j : Int)) (by omega) (fun j next hj hI hnx => ?_) (fun hall => ?_)
  · refine ⟨⟨by omega, by omega⟩, fun y => y = decide (at' (at' f.Nodes (i : Int)).Args (j : Int) < 0 ∨ f.Vars + i ≤ at' (at' f.Nodes (i : Int)).Args (j : Int)), ?_, ?_⟩
    · exact condT (fun hc2 => (decide_eq_true (Or.inl hc2)).symm) (fun hc2 => ⟨by unfold rng; omega, decide_eq_decide.2 ⟨Or.inr, fun hh => hh.resolve_left hc2⟩⟩)
    · rintro _ rfl
      refine condT (fun hb2 => ?_) (fun hb2 => hnx hb2)
      rw [if_pos ⟨j, hj, hb2⟩] at h; exact h
  rw [if_neg (by rintro ⟨j, hj, hb2⟩; exact hall j hj hb2)] at h
  refine condE (fun h0 => ?_) (fun h0 => ?_)
  · rw [if_pos h0] at h
    refine ⟨fun y => y = decide ((at' f.Nodes (i : Int)).K ≠ 0 ∧ (at' f.Nodes (i : Int)).K ≠ 1), ?_, ?_⟩
    · refine condN (fun hk => ?_) (fun hk => ?_)
      · show ((at' f.Nodes (i : Int)).K != 1) = _
        rw [Bool.eq_iff_iff]; simp [hk]
      · rw [decide_eq_false (fun hh => hh.1 hk)]
    · rintro _ rfl
      refine condT (fun hk => ?_) (fun hk => ?_)
      · rw [if_pos hk] at h; exact h
      · rw [if_neg hk] at h; exact h
  rw [if_neg h0] at h
  refine condE (fun h4 => ?_) (fun h4 => ?_)
  · rw [if_pos h4] at h
    refine ⟨fun y => y = decide ((at' f.Nodes (i : Int)).K < 1 ∨ ((at' f.Nodes (i : Int)).Args.length : Int) < (at' f.Nodes (i : Int)).K), ?_, ?_⟩
    · exact condT (fun hk => (decide_eq_true (Or.inl hk)).symm) (fun hk => decide_eq_decide.2 ⟨Or.inr, fun hh => hh.resolve_left hk⟩)
    · rintro _ rfl
      refine condT (fun hk => ?_) (fun hk => ?_)
      · rw [if_pos hk] at h; exact h
      · rw [if_neg hk] at h; exact h
  rw [if_neg h4] at h
  refine condN (fun hk => ?_) (fun hk => ?_)
  · rw [if_pos hk] at h; exact h
  · rw [if_neg (fun hh => hh hk)] at h; exact h
theorem formula_Valid_s {f : GFormula} {a : Int} {Q : Bool → Prop} (ha : rng a) (h : Q (validB f a)) : formula_Valid_W f a Q := by
  unfold validB at h
  unfold rng at ha
  refine condT (fun h1 => condT (fun h2 => condT (fun h3 => ?_) (fun h3 => ⟨by unfold rng; omega, ?_⟩)) (fun h2 => ?_)) (fun h1 => ?_)
  · rw [decide_eq_true ⟨h1, h2, Or.inl h3⟩] at h; exact h
  · rw [show decide (a - f.Vars < (f.Nodes.length : Int)) = decide (0 ≤ f.Vars ∧ 0 ≤ a ∧ (a < f.Vars ∨ a - f.Vars < f.Nodes.length)) from decide_eq_decide.2 (by omega)]; exact h
  · rw [decide_eq_false (fun hh => h2 hh.2.1)] at h; exact h
  · rw [decide_eq_false (fun hh => h1 hh.1)] at h; exact h
theorem isSome_errO {e : Int} : (errO e).isSome = decide (e ≠ 0) := by
  unfold errO
  by_cases h : e = 0
  · rw [if_pos h, decide_eq_false (fun hh => hh h)]; rfl
  · rw [if_neg h, decide_eq_true h]; rfl
theorem formula_Check_s {f : GFormula} {Q : Option Int → Prop} (ht : rng f.Top) (h : Q (errO (chkM f))) : formula_Check_W f Q := by
  unfold chkM at h
  refine ⟨fun y => y = decide (f.Vars < 0 ∨ 24 < f.Vars), ?_, ?_⟩
  · exact condT (fun hc => (decide_eq_true (Or.inl hc)).symm) (fun hc => decide_eq_decide.2 ⟨Or.inr, fun hh => hh.resolve_left hc⟩)
  rintro _ rfl
  refine condT (fun hc => ?_) (fun hc => ?_)
  · rw [if_pos hc] at h; exact h
  rw [if_neg hc] at h
  refine condT (fun hc2 => ?_) (fun hc2 => ?_)
  · rw [if_pos (by omega)] at h; exact h
  rw [if_neg (by omega)] at h
  refine scanW (fun i => nodeE f i ≠ 0) (by omega) (fun i next hi hI hnx => ?_) (fun hall => ?_)
  · refine formula_checkNode_s hi (by omega) (by omega) ?_
    rw [isSome_errO]
    refine condT (fun he => ?_) (fun he => hnx he)
    rw [firstE_hit (fun j hj => Decidable.not_not.1 (hI j hj)) he _ hi, if_pos he] at h
    exact h
  · rw [if_neg (fun hh => hh (firstE_zero.2 fun j hj => Decidable.not_not.1 (hall j hj)))] at h
    refine formula_Valid_s ht (condB (fun hb => ?_) (fun hb => ?_))
    · rw [if_pos (by simpa using hb)] at h; exact h
    · rw [if_neg (by simpa using hb)] at h; exact h
/-- A formula that is accepted. -/
structure FG (f : GFormula) : Prop where
  v0 : 0 ≤ f.Vars
  v24 : f.Vars ≤ 24
  n128 : f.Nodes.length ≤ 128
  node : ∀ i, i < f.Nodes.length → nodeE f i = 0
  top0 : 0 ≤ f.Top
  top : f.Top < f.Vars + f.Nodes.length
theorem chk_ok {f : GFormula} : chkM f = 0 ↔ FG f := by
  unfold chkM
  constructor
  · intro h
    split at h
    · cases h
    split at h
    · cases h
    split at h
    · rename_i h3; exact absurd h h3
    split at h
    · cases h
    rename_i h1 h2 h3 h4
    rw [Decidable.not_not] at h3
    have h5 := firstE_zero.1 h3
    simp only [validB, Bool.not_eq_false, decide_eq_true_eq] at h4
    exact ⟨by omega, by omega, by omega, h5, by omega, by omega⟩
  · intro h
    rw [if_neg (by have := h.v0; have := h.v24; omega), if_neg (by have := h.n128; omega), if_neg (fun hh => hh (firstE_zero.2 h.node)), if_neg]
    have := h.v0; have := h.top0; have := h.top
    simp only [validB, Bool.not_eq_false, decide_eq_true_eq]
    omega
/-- A node that is accepted. -/
structure NG (f : GFormula) (i : Nat) : Prop where
  k0 : 0 ≤ (at' f.Nodes (i : Int)).Kind
  k5 : (at' f.Nodes (i : Int)).Kind ≤ 5
  len : (at' f.Nodes (i : Int)).Args.length ≤ 16
  arg : ∀ j : Nat, j < (at' f.Nodes (i : Int)).Args.length → 0 ≤ at' (at' f.Nodes (i : Int)).Args (j : Int) ∧ at' (at' f.Nodes (i : Int)).Args (j : Int) < f.Vars + i
  args : argsB (at' f.Nodes (i : Int)).Kind (at' f.Nodes (i : Int)).Args.length = true
theorem nodeE_ok {f : GFormula} {i : Nat} (h : nodeE f i = 0) : NG f i := by
  unfold nodeE at h
  split at h
  · cases h
  split at h
  · cases h
  split at h
  · cases h
  rename_i h1 h2 h3
  refine ⟨by omega, by omega, argsB_le (by simpa using h2), fun j hj => ?_, by simpa using h2⟩
  rw [not_exists] at h3
  have := h3 j
  simp only [hj, true_and, not_or] at this
  omega
end Go.Gg
namespace Go.Gg
/-- Event i is in the set s. -/
def inS (s i : Nat) : Bool := decide (s / 2 ^ i % 2 = 1)
theorem at_set {α : Type} [Inhabited α] {l : List α} {i : Nat} {x : α} {j : Nat} (h : i < l.length) : at' (set' l (i : Int) x) (j : Int) = if j = i then x else at' l (j : Int) := by
  simp only [at', set', Int.toNat_natCast, List.getD_eq_getElem?_getD, List.getElem?_set]
  by_cases hij : i = j
  · subst hij; simp [h]
  · rw [if_neg hij, if_neg (fun e => hij e.symm)]
theorem set_len {α : Type} {l : List α} {i : Int} {x : α} : (set' l i x).length = l.length := by simp [set']
end Go.Gg
namespace Go.Gg
end Go.Gg
/- Orders of events: the program's and the reference's functions. Conditions: none. -/
namespace Go.Gg
/-- The number of the error of a place of an order. -/
def plE (o : List Int) (n : Int) (i : Nat) : Int :=
  if at' o (i : Int) < 0 ∨ n ≤ at' o (i : Int) then 3 else if ∃ k < i, at' o (k : Int) = at' o (i : Int) then 6 else 0
/-- The number of the first error of an order of so many events. -/
def ordE (o : List Int) (n : Int) : Int := if n < 0 ∨ 24 < n then 3 else if (o.length : Int) ≠ n then 11 else firstE (plE o n) o.length
theorem ref14_Check_s {o : List Int} {n : Int} {Q : Int → Prop} (h : Q (ordE o n)) : ref14_Check_W o n Q := by
  unfold ordE at h
  refine condT (fun h0 => ?_) (fun h0 => condT (fun h1 => ?_) (fun h1 => condN (fun h2 => ?_) (fun h2 => ?_)))
  · rw [if_pos (.inl h0)] at h; exact h
  · rw [if_pos (.inr h1)] at h; exact h
  · rw [if_neg (by omega), if_pos h2] at h; exact h
  · rw [if_neg (by omega), if_neg (by omega)] at h
    subst h2
    refine scanW (n := o.length) (fun i => plE o o.length i ≠ 0) (by omega) (fun i next hi hI hn => ?_) (fun hI => ?_)
    · have hz : ∀ j, j < i → plE o o.length j = 0 := fun j hj => by have := hI j hj; omega
      have hit : ∀ e, plE o o.length i = e → e ≠ 0 → Q e := fun e he hne => by
        have := firstE_hit hz (by rw [he]; exact hne) o.length hi
        rw [this, he] at h
        exact h
      refine ⟨⟨by omega, by omega⟩, condT (fun h3 => hit 3 (by rw [plE, if_pos (.inl h3)]) (by decide)) (fun h3 => ⟨⟨by omega, by omega⟩, condT (fun h4 => hit 3 (by rw [plE, if_pos (.inr h4)]) (by decide)) (fun h4 => ?_)⟩)⟩
      refine scanW (n := i) (fun k => at' o (k : Int) = at' o (i : Int)) (by omega) (fun k next2 hk hK hn2 => ?_) (fun hK => ?_)
      · exact ⟨⟨by omega, by omega⟩, ⟨by omega, by omega⟩, condE (fun h5 => hit 6 (by rw [plE, if_neg (by omega), if_pos ⟨k, hk, h5⟩]) (by decide)) (fun h5 => hn2 h5)⟩
      · exact hn (by rw [plE, if_neg (by omega), if_neg (fun ⟨k, hk, h5⟩ => hK k hk h5)]; simp)
    · have : firstE (plE o o.length) o.length = 0 := firstE_zero.2 fun i hi => by have := hI i hi; omega
      rw [this] at h
      exact h
theorem order_Check_s {o : List Int} {n : Int} {Q : Option Int → Prop} (h : Q (errO (ordE o n))) : order_Check_W o n Q := by
  unfold ordE at h
  refine ⟨fun b => b = decide (n < 0 ∨ 24 < n), condT (fun h0 => ?_) (fun h0 => ?_), fun b hb => ?_⟩
  · rw [decide_eq_true (.inl h0)]
  · exact decide_eq_decide.2 (by omega)
  subst hb
  refine condT (fun h0 => ?_) (fun h0 => condN (fun h2 => ?_) (fun h2 => ?_))
  · rw [if_pos h0] at h; exact h
  · rw [if_neg h0, if_pos h2] at h; exact h
  · rw [if_neg h0, if_neg (by omega)] at h
    subst h2
    refine ⟨⟨by omega, by omega, by omega⟩, ?_⟩
    refine loopInv (n := o.length) (fun i y => (y.1 = (i : Int) ∧ ∀ j, j < i → plE o o.length j = 0) ∧ y.2.length = o.length ∧ ∀ v : Nat, v < o.length → (at' y.2 (v : Int) = true ↔ ∃ k < i, at' o (k : Int) = (v : Int))) (fun y => y.1) 0
      (fun i y hy => by rw [hy.1.1]; omega) ⟨⟨rfl, fun j hj => absurd hj (by omega)⟩, by simp [rep'], fun v hv => ?_⟩ ?_ ?_
    · constructor
      · intro hb
        simp [at', rep', List.getD_eq_getElem?_getD, hv] at hb
      · rintro ⟨k, hk, _⟩; omega
    · rintro i ⟨x, seen⟩ next hi ⟨⟨hx, hz⟩, hl, hs⟩ hn
      dsimp only at hx hl hs
      subst hx
      have hit : ∀ e, plE o o.length i = e → e ≠ 0 → Q (errO e) := fun e he hne => by
        have := firstE_hit hz (by rw [he]; exact hne) o.length hi
        rw [this, he] at h
        exact h
      refine condT (fun _ => ⟨⟨by omega, by omega⟩, fun b => b = decide (at' o (i : Int) < 0 ∨ (o.length : Int) ≤ at' o (i : Int)), condT (fun h3 => ?_) (fun h3 => ?_), fun b hb => ?_⟩) (fun hc => absurd (show (i : Int) < o.length by omega) hc)
      · rw [decide_eq_true (.inl h3)]
      · exact decide_eq_decide.2 (by omega)
      subst hb
      refine condT (fun h3 => hit 3 (by rw [plE, if_pos h3]) (by decide)) (fun h3 => ⟨by omega, ?_⟩)
      obtain ⟨v, hv⟩ : ∃ v : Nat, at' o (i : Int) = v := ⟨(at' o (i : Int)).toNat, by omega⟩
      have hvl : v < o.length := by omega
      rw [hv]
      have hsv := hs v hvl
      refine condB (fun h4 => hit 6 (by rw [plE, if_neg h3, hv, if_pos (hsv.1 h4)]) (by decide)) (fun h4 => ⟨by omega, by unfold rng; omega, hn _ ⟨⟨by dsimp only; omega, fun j hj => ?_⟩, by dsimp only; rw [set_len]; exact hl, fun u hu => ?_⟩⟩)
      · rcases Nat.lt_or_ge j i with h5 | h5
        · exact hz j h5
        · obtain rfl : j = i := by omega
          rw [plE, if_neg h3, hv, if_neg (fun hc => by rw [hsv.2 hc] at h4; cases h4)]
      · dsimp only
        rw [at_set (by omega)]
        split
        · rename_i he
          subst he
          exact ⟨fun _ => ⟨i, by omega, hv⟩, fun _ => rfl⟩
        · rename_i he
          rw [hs u hu]
          constructor
          · rintro ⟨k, hk, hk'⟩; exact ⟨k, by omega, hk'⟩
          · rintro ⟨k, hk, hk'⟩
            rcases Nat.lt_or_ge k i with h5 | h5
            · exact ⟨k, h5, hk'⟩
            · obtain rfl : k = i := by omega
              omega
    · rintro ⟨x, seen⟩ next ⟨⟨hx, hz⟩, _⟩
      dsimp only at hx
      subst hx
      refine condT (fun hc => absurd hc (by omega)) (fun _ => ?_)
      rw [firstE_zero.2 hz] at h
      exact h
/-- A list that has each event once. -/
structure Or14 (o : List Int) : Prop where
  le : o.length ≤ 24
  rg : ∀ i : Nat, i < o.length → 0 ≤ at' o (i : Int) ∧ at' o (i : Int) < o.length
  inj : ∀ i j : Nat, i < o.length → j < o.length → at' o (i : Int) = at' o (j : Int) → i = j
theorem ordE_zero {o : List Int} (h : ordE o o.length = 0) : Or14 o := by
  unfold ordE at h
  split at h
  · cases h
  · rw [if_neg (by simp)] at h
    have hz := firstE_zero.1 h
    have hp : ∀ i, i < o.length → (0 ≤ at' o (i : Int) ∧ at' o (i : Int) < o.length) ∧ ∀ k, k < i → at' o (k : Int) ≠ at' o (i : Int) := fun i hi => by
      have := hz i hi
      unfold plE at this
      split at this
      · cases this
      · split at this
        · cases this
        · rename_i h1 h2; exact ⟨by omega, fun k hk he => h2 ⟨k, hk, he⟩⟩
    refine ⟨by omega, fun i hi => (hp i hi).1, fun i j hi hj he => ?_⟩
    rcases Nat.lt_trichotomy i j with h1 | h1 | h1
    · exact absurd he ((hp j hj).2 i h1)
    · exact h1
    · exact absurd he.symm ((hp i hi).2 j h1)
theorem ordE_of {o : List Int} (h : Or14 o) : ordE o o.length = 0 := by
  have := h.le
  unfold ordE
  rw [if_neg (by omega), if_neg (by simp)]
  refine firstE_zero.2 fun i hi => ?_
  have := h.rg i hi
  rw [plE, if_neg (by omega), if_neg (fun ⟨k, hk, he⟩ => by have := h.inj k i (by omega) hi he; omega)]
/-! ### Each number has a place -/
theorem nodup_le : ∀ (m : Nat) (l : List Nat), l.Nodup → (∀ x ∈ l, x < m) → l.length ≤ m
  | 0, l, _, h => by
    cases l with
    | nil => simp
    | cons x l => have := h x (by simp); omega
  | m + 1, l, hd, h => by
    by_cases hm : m ∈ l
    · have h1 := nodup_le m (l.erase m) (hd.erase m) (fun x hx => by
        have h2 := h x (List.mem_of_mem_erase hx)
        have h3 : x ≠ m := fun he => by subst he; exact (hd.not_mem_erase) hx
        omega)
      have := List.length_erase_of_mem hm
      omega
    · have := nodup_le m l hd (fun x hx => by
        have h2 := h x hx
        have h3 : x ≠ m := fun he => hm (he ▸ hx)
        omega)
      omega
theorem nodup_all {l : List Nat} (hd : l.Nodup) (h : ∀ x ∈ l, x < l.length) {v : Nat} (hv : v < l.length) : v ∈ l := by
  by_cases hm : v ∈ l
  · exact hm
  · exfalso
    have h1 := nodup_le l.length (v :: l) (List.nodup_cons.2 ⟨hm, hd⟩) (fun x hx => by
      rcases List.mem_cons.1 hx with rfl | hx
      · exact hv
      · exact h x hx)
    simp at h1
    omega
def natO (o : List Int) : List Nat := o.map Int.toNat
def levO (o : List Int) : Nat → Nat := fun v => (natO o).idxOf v
section
variable {o : List Int}
theorem natO_len : (natO o).length = o.length := by simp [natO]
theorem natO_at {i : Nat} (h : i < o.length) : (natO o)[i]? = some (at' o (i : Int)).toNat := by
  simp [natO, at', List.getD_eq_getElem?_getD, List.getElem?_eq_getElem h]
theorem Or14.nodup (h : Or14 o) : (natO o).Nodup := by
  rw [List.Nodup, List.pairwise_iff_getElem]
  intro i j hi hj hij he
  rw [natO_len] at hi hj
  have h1 := natO_at hi
  have h2 := natO_at hj
  rw [List.getElem?_eq_getElem (by rw [natO_len]; exact hi)] at h1
  rw [List.getElem?_eq_getElem (by rw [natO_len]; exact hj)] at h2
  have h3 := Option.some.inj h1
  have h4 := Option.some.inj h2
  have h5 := h.rg i hi
  have h6 := h.rg j hj
  have := h.inj i j hi hj (by omega)
  omega
theorem Or14.all (h : Or14 o) {v : Nat} (hv : v < o.length) : v ∈ natO o := by
  refine nodup_all h.nodup (fun x hx => ?_) (by rw [natO_len]; exact hv)
  obtain ⟨i, hi⟩ := List.mem_iff_getElem?.1 hx
  have hil : i < o.length := by have := (List.getElem?_eq_some_iff.1 hi).1; rwa [natO_len] at this
  rw [natO_at hil] at hi
  have := h.rg i hil
  rw [natO_len]
  have := Option.some.inj hi
  omega
theorem Or14.lev_at (h : Or14 o) {i : Nat} (hi : i < o.length) : levO o (at' o (i : Int)).toNat = i := by
  have h1 := natO_at hi
  have hil : i < (natO o).length := by rw [natO_len]; exact hi
  rw [List.getElem?_eq_getElem hil] at h1
  unfold levO
  rw [← Option.some.inj h1]
  exact h.nodup.idxOf_getElem i hil
theorem Or14.at_lev (h : Or14 o) {v : Nat} (hv : v < o.length) : levO o v < o.length ∧ at' o (levO o v : Int) = v := by
  have hm := h.all hv
  have hl : levO o v < (natO o).length := List.idxOf_lt_length_of_mem hm
  have hl' : levO o v < o.length := by rwa [natO_len] at hl
  refine ⟨hl', ?_⟩
  have h1 := natO_at hl'
  rw [List.getElem?_eq_getElem hl] at h1
  have h2 : (natO o)[levO o v] = v := List.getElem_idxOf hl
  rw [h2] at h1
  have := h.rg _ hl'
  have := Option.some.inj h1
  omega
theorem Or14.ord (h : Or14 o) : OrdL o.length (levO o) (natO o) := by
  refine ⟨⟨fun i j hi hj he => ?_, fun i hi => (h.at_lev hi).1⟩, natO_len, fun i v hi => ?_, fun v hv => ?_⟩
  · have h1 := (h.at_lev hi).2
    have h2 := (h.at_lev hj).2
    rw [he] at h1
    omega
  · have hil : i < o.length := by have := (List.getElem?_eq_some_iff.1 hi).1; rwa [natO_len] at this
    rw [natO_at hil] at hi
    have h1 := Option.some.inj hi
    have h2 := h.rg i hil
    exact ⟨by omega, by rw [← h1]; exact h.lev_at hil⟩
  · have h1 := h.at_lev hv
    rw [natO_at h1.1, h1.2]
    rfl
theorem order_places_s {Q : List Int → Prop} (h : Or14 o) (hQ : ∀ r : List Int, r.length = o.length → (∀ v : Nat, v < o.length → at' r (v : Int) = (levO o v : Int)) → Q r) : order_places_W o Q := by
  have hle := h.le
  refine ⟨⟨by omega, by omega, by omega⟩, ?_⟩
  refine loopInv (n := o.length) (fun i y => y.1 = (i : Int) ∧ y.2.length = o.length ∧ ∀ v : Nat, v < o.length → levO o v < i → at' y.2 (v : Int) = (levO o v : Int)) (fun y => y.1) 0 (fun i y hy => by rw [hy.1]; omega) ⟨rfl, by simp [rep'], fun v hv hl => absurd hl (by omega)⟩ ?_ ?_
  · rintro i ⟨x, out⟩ next hi ⟨hx, hl, hI⟩ hn
    dsimp only at hx hl hI
    subst hx
    have hr := h.rg i hi
    obtain ⟨v, hv⟩ : ∃ v : Nat, at' o (i : Int) = v := ⟨(at' o (i : Int)).toNat, by omega⟩
    have hlv := h.lev_at hi
    rw [hv, Int.toNat_natCast] at hlv
    refine condT (fun _ => ⟨⟨by omega, by omega⟩, by omega, by unfold rng; omega, hn _ ⟨by dsimp only; omega, by dsimp only; rw [set_len]; exact hl, fun u hu hul => ?_⟩⟩) (fun hc => absurd (show (i : Int) < o.length by omega) hc)
    dsimp only
    rw [hv, at_set (by omega)]
    split
    · rename_i he; subst he; rw [hlv]
    · rename_i he
      refine hI u hu ?_
      rcases Nat.lt_or_ge (levO o u) i with h5 | h5
      · exact h5
      · have h6 := (h.at_lev hu).2
        rw [show levO o u = i by omega, hv] at h6
        omega
  · rintro ⟨x, out⟩ next ⟨hx, hl, hI⟩
    dsimp only at hx hl hI
    subst hx
    exact condT (fun hc => absurd hc (by omega)) (fun _ => hQ out hl fun v hv => hI v hv (h.at_lev hv).1)
theorem order_Positions_s {Q : List Int → Option Int → Prop} (h1 : ordE o o.length ≠ 0 → Q [] (errO (ordE o o.length))) (h2 : Or14 o → ∀ r : List Int, r.length = o.length → (∀ v : Nat, v < o.length → at' r (v : Int) = (levO o v : Int)) → Q r none) : order_Positions_W o Q := by
  refine order_Check_s ?_
  by_cases h0 : ordE o o.length = 0
  · rw [h0]
    refine condB (fun hb => by cases hb) (fun _ => order_places_s (ordE_zero h0) (h2 (ordE_zero h0)))
  · have : Option.isSome (errO (ordE o o.length)) = true := by simp [errO, h0]
    exact condB (fun _ => h1 h0) (fun hb => by rw [this] at hb; cases hb)
theorem ref14_Place_s {l : List Int} {n : Int} {Q : Int → Prop} (hl : l.length ≤ 9223372036854775807) (h1 : ∀ i : Nat, i < l.length → at' l (i : Int) = n → (∀ j : Nat, j < i → at' l (j : Int) ≠ n) → Q (i : Int)) (h2 : n ∉ l → Q (-1)) : ref14_Place_W l n Q := by
  refine scanW (n := l.length) (fun i => at' l (i : Int) = n) hl (fun i next hi hI hn => ⟨⟨by omega, by omega⟩, condE (fun he => h1 i hi he hI) (fun he => hn he)⟩) (fun hI => h2 fun hm => ?_)
  obtain ⟨i, hi⟩ := List.mem_iff_getElem?.1 hm
  have hil := (List.getElem?_eq_some_iff.1 hi).1
  exact hI i hil (by simp [at', List.getD_eq_getElem?_getD, hi])
theorem Or14.place (h : Or14 o) {v : Nat} {Q : Int → Prop} (hv : v < o.length) (hQ : Q (levO o v : Int)) : ref14_Place_W o (v : Int) Q := by
  have hle := h.le
  have h1 := h.at_lev hv
  refine ref14_Place_s (by omega) (fun i hi he _ => ?_) (fun hm => absurd (by rw [← h1.2]; unfold at'; rw [List.getD_eq_getElem?_getD, Int.toNat_natCast, List.getElem?_eq_getElem h1.1]; exact List.getElem_mem h1.1) hm)
  have : i = levO o v := h.inj i _ hi h1.1 (by rw [he, h1.2])
  rw [this]
  exact hQ
end
end Go.Gg
/- Diagrams: Check, the program's and the reference's. Conditions: none. -/
namespace Go.Gg
section
variable {o : List Int} {N : List GDNode}
end
end Go.Gg
namespace Go.Gg
/-- References of nodes, each once. -/
def Bk (N : List GDNode) (b : List Int) : Prop := b.Nodup ∧ ∀ q ∈ b, 2 ≤ q ∧ q < 2 + N.length
theorem Bk.nil {N : List GDNode} : Bk N [] := ⟨List.nodup_nil, fun q h => by simp at h⟩
theorem Bk.len {N : List GDNode} {b : List Int} (h : Bk N b) : b.length ≤ N.length := by
  have h1 : (b.map fun q => (q - 2).toNat).Nodup := by
    refine List.pairwise_map.2 (List.Pairwise.imp_of_mem (fun {x y} hx hy hne => ?_) h.1)
    have := h.2 x hx
    have := h.2 y hy
    intro he
    exact hne (by omega)
  have := nodup_le N.length _ h1 (fun x hx => by
    obtain ⟨q, hq, rfl⟩ := List.mem_map.1 hx
    have := h.2 q hq
    omega)
  simpa using this
section
variable {N : List GDNode}
theorem Bk.numR (hK : Kids N) : ∀ (r : Nat) (b : List Int), r < 2 + N.length → Bk N b → Bk N (numR N r b) := by
  intro r
  induction r using Nat.strongRecOn with
  | _ r ih =>
    intro b hr hb
    by_cases hc : r < 2 ∨ (r : Int) ∈ b
    · rw [numR_old hc]; exact hb
    · obtain ⟨i, rfl⟩ : ∃ i, r = 2 + i := ⟨r - 2, by omega⟩
      have hx : N[i]? = some (N[i]'(by omega)) := List.getElem?_eq_getElem (by omega)
      have hk := hK i _ hx
      rw [numR_node hK hx (fun hm => hc (.inr hm))]
      have b1 := ih _ (show (N[i]'(by omega)).Lo.toNat < 2 + i by omega) b (by omega) hb
      have b2 := ih _ (show (N[i]'(by omega)).Hi.toNat < 2 + i by omega) _ (by omega) b1
      obtain ⟨c1, e1, k1⟩ := numR_ext hK (N[i]'(by omega)).Lo.toNat b
      obtain ⟨c2, e2, k2⟩ := numR_ext hK (N[i]'(by omega)).Hi.toNat (Gg.numR N (N[i]'(by omega)).Lo.toNat b)
      refine ⟨List.nodup_append.2 ⟨b2.1, by simp, fun x hx y hy => ?_⟩, fun q hq => ?_⟩
      · simp only [List.mem_singleton] at hy
        subst hy
        rintro rfl
        rw [e2, e1, List.mem_append, List.mem_append] at hx
        rcases hx with (hx | hx) | hx
        · exact hc (.inr hx)
        · have := k1 _ hx; omega
        · have := k2 _ hx; omega
      · rcases List.mem_append.1 hq with hq | hq
        · exact b2.2 q hq
        · simp only [List.mem_singleton] at hq; subst hq; omega
theorem at_get {i : Nat} (hi : i < N.length) : N[i]? = some (at' N (i : Int)) := by
  simp [at', List.getD_eq_getElem?_getD, List.getElem?_eq_getElem hi]
/-- What the program's walk knows: the number of nodes behind it, whether they were numbered as they came, which of them it saw. -/
structure NB (N : List GDNode) (b : List Int) (ok : Bool) (next : Int) (seen : List Bool) : Prop where
  nx : next = b.length
  ok : ok = true ↔ b = upto b.length
  len : seen.length = N.length
end
end Go.Gg
namespace Go.Gg
theorem errO_some {e : Int} (h : e ≠ 0) : Option.isSome (errO e) = true := by simp [errO, h]
theorem errO_ne' {e : Int} (h : e ≠ 0) : errO e = some e := by simp [errO, h]
/-- An accepted diagram. -/
structure VD (d : GDiagram) : Prop where
  ord : Or14 d.Order
  wt : WT d.Order.length (levO d.Order) d.Nodes
  root : Vd d.Nodes d.Root
  le : d.Nodes.length ≤ 4096
  num : numR d.Nodes d.Root.toNat [] = upto d.Nodes.length
/-- The only diagram of a function for an order. -/
def canD (o : List Int) (f : Asg → Bool) : GDiagram := ⟨o, (addF (natO o) f []).1, (addF (natO o) f []).2⟩
theorem VD.can {d : GDiagram} (h : VD d) : d = canD d.Order (dn d.Nodes d.Root) := by
  have h1 := numb_addF h.ord.ord h.wt d.Root.toNat 0 d.Nodes.length h.root.2 (by omega) (Nat.le_refl _) (by rw [show upto 0 = [] from rfl]; exact h.num)
  have hr := h.root.1
  rw [List.take_zero, List.take_length] at h1
  cases d with
  | mk o N r =>
    unfold canD
    simp only at h1 hr ⊢
    rw [show dn N r = fun σ => den N σ r.toNat from rfl, h1]
    simp only [GDiagram.mk.injEq, true_and]
    omega
end Go.Gg
/- Bits of small numbers. Conditions: the numbers are below 2^62. -/
namespace Go.Gg
end Go.Gg
/- Diagrams: values, tables, and the reference's diagram of a table. Conditions: none. -/
namespace Go.Gg
/-- The assignment of a state. -/
def stA (s : Nat) : Asg := fun v => inS s v
section
variable {o : List Int} {N : List GDNode}
/-- A function's table. -/
def tabF (n : Nat) (f : Asg → Bool) : List Bool := (List.range (2 ^ n)).map fun s => f (stA s)
theorem tabF_len {n : Nat} {f : Asg → Bool} : (tabF n f).length = 2 ^ n := by simp [tabF]
theorem tabF_at {n s : Nat} {f : Asg → Bool} (h : s < 2 ^ n) : at' (tabF n f) (s : Int) = f (stA s) := by simp [tabF, at', List.getD_eq_getElem?_getD, h]
end
end Go.Gg
