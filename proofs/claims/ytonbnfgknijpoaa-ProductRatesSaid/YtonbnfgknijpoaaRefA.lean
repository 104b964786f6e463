/- What the functions of the first reference compute, told of their formulas: part A. Conditions: none. -/
import Derived.Test.YtonbnfgknijpoaaNatE
namespace Go.Gg

theorem pv_snoc {l : List Int} {n : Nat} {x : Int} (h : l.length = n) : pv (l ++ [x]) (n + 1) = pv l n + x * 4294967296 ^ n := by
  rw [pv, pv_append (by omega), getD_append_r (by omega)]
  have : n - l.length = 0 := by omega
  rw [this]; rfl
theorem Words.one {x : Int} (h0 : 0 ≤ x) (h1 : x < 4294967296) : Words [x] := Words.nil.cons h0 h1
theorem app_ok {l : List Int} {x : Int} (h : l.length ≤ 1099511627776) : (l ++ [x]).length * 4 ≤ 140737488355328 := by simp; omega

theorem ref01_word_s {a : List Int} {i : Nat} {Q : Int → Prop} (hw : Words a) (h : Q (a.getD i 0)) : ref01_word_W a (i : Int) Q := by
  refine condT (fun hc => ⟨⟨by omega, hc⟩, ?_⟩) (fun hc => ?_)
  · rw [at_nat]
    have := hw i
    rw [wrap_u64_id (by omega) (by omega)]
    exact h
  · rw [getD_ge (by omega)] at h
    exact h
theorem ref01_Trim_s {a : List Int} {Q : List Int → Prop} (hw : Words a) (hl : SM a) (h : Q (lim (val a))) : ref01_Trim_W a Q := by
  refine ⟨fun n => ∃ j : Nat, n = j ∧ j ≤ a.length ∧ (∀ i, j ≤ i → i < a.length → a.getD i 0 = 0) ∧ (0 < j → a.getD (j - 1) 0 ≠ 0), ?_, ?_⟩
  · refine ⟨fun n => ∃ j : Nat, n = j ∧ j ≤ a.length ∧ (∀ i, j ≤ i → i < a.length → a.getD i 0 = 0), fun n => n.toNat, ⟨a.length, rfl, Nat.le_refl _, fun i h1 h2 => by omega⟩, ?_⟩
    rintro n ⟨j, rfl, hj, hz⟩
    refine condT (fun hc => ⟨by unfold rng; omega, ⟨by omega, by omega⟩, condE (fun he => ⟨by unfold rng; omega, ⟨j - 1, by omega, by omega, fun i h1 h2 => ?_⟩, by dsimp only; omega⟩) (fun he => ⟨j, rfl, hj, hz, fun _ => ?_⟩)⟩) (fun hc => ⟨j, rfl, hj, hz, fun h0 => by omega⟩)
    · by_cases hi : i = j - 1
      · subst hi
        rw [at_int] at he
        have : ((j : Int) - 1).toNat = j - 1 := by omega
        rwa [this] at he
      · exact hz i (by omega) h2
    · rw [at_int] at he
      have : ((j : Int) - 1).toNat = j - 1 := by omega
      rwa [this] at he
  · rintro n ⟨j, rfl, hj, hz, hlast⟩
    have e := lim_take hw hj hz hlast
    refine ⟨⟨by omega, by omega, by omega⟩, ?_, ?_⟩
    · simp [sub']
      have : min j a.length ≤ a.length := by omega
      omega
    · rw [← e] at h
      simpa [sub'] using h
theorem ref01_Cmp_s {a b : List Int} {Q : Int → Prop} (ha : Words a) (hb : Words b) (la : SM a) (lb : SM b) (h : Q (cmpv (val a) (val b))) : ref01_Cmp_W a b Q := by
  unfold SM at la lb
  obtain ⟨N, hN⟩ : ∃ N, N = max a.length b.length := ⟨_, rfl⟩
  have hNi : max (a.length : Int) (b.length : Int) = (N : Int) := by omega
  have v1 := val_pv' ha (i := N) (by omega)
  have v2 := val_pv' hb (i := N) (by omega)
  unfold ref01_Cmp_W
  rw [hNi]
  refine ⟨by unfold rng; omega, letIn ⟨fun i => ∃ j : Nat, i = (j : Int) - 1 ∧ j ≤ N ∧ (∀ k, j ≤ k → k < N → a.getD k 0 = b.getD k 0), fun i => (i + 1).toNat, ⟨N, rfl, Nat.le_refl _, fun k h1 h2 => by omega⟩, ?_⟩⟩
  rintro _ ⟨j, rfl, hj, he⟩
  refine condT (fun hc => ?_) (fun hc => ?_)
  · obtain ⟨i, rfl⟩ : ∃ i, j = i + 1 := ⟨j - 1, by omega⟩
    have ei : ((i + 1 : Nat) : Int) - 1 = (i : Int) := by omega
    rw [ei]
    refine ref01_word_s ha (ref01_word_s hb (condT (fun h1 => ?_) (fun h1 => ref01_word_s ha (ref01_word_s hb (condT (fun h2 => ?_) (fun h2 => ⟨by unfold rng; omega, ⟨i, rfl, by omega, fun k h3 h4 => ?_⟩, by dsimp only; omega⟩))))))
    · have := pv_lt ha hb (i := i) (n := N) (by omega) h1 (fun k h1 h2 => he k (by omega) h2)
      rw [cmpv, if_pos (by omega)] at h; exact h
    · have := pv_lt hb ha (i := i) (n := N) (by omega) h2 (fun k h1 h2 => (he k (by omega) h2).symm)
      rw [cmpv, if_neg (by omega), if_neg (by omega)] at h; exact h
    · by_cases hk : k = i
      · subst hk; omega
      · exact he k (by omega) h4
  · have := pv_congr (l := a) (m := b) N (fun k hk => he k (by omega) hk)
    rw [cmpv, if_neg (by omega), if_pos (by omega)] at h; exact h
theorem ref01_Add_s {a b : List Int} {Q : List Int → Prop} (ha : Words a) (hb : Words b) (lb : a.length ≤ 1099511627775 ∧ b.length ≤ 1099511627775) (h : Q (lim (val a + val b))) : ref01_Add_W a b Q := by
  obtain ⟨n, hn0⟩ : ∃ n, n = max a.length b.length + 1 := ⟨_, rfl⟩
  have hn : max (a.length : Int) (b.length : Int) + 1 = (n : Int) := by omega
  unfold ref01_Add_W
  rw [hn]
  refine ⟨by unfold rng; omega, ?_⟩
  refine ⟨fun y => ∃ i : Nat, y.2.1 = i ∧ i ≤ n ∧ y.2.2.length = i ∧ Words y.2.2 ∧ 0 ≤ y.1 ∧ y.1 ≤ 1 ∧ pv y.2.2 i + y.1 * 4294967296 ^ i = pv a i + pv b i, fun y => n - y.2.1.toNat, ⟨0, rfl, by omega, rfl, Words.nil, by show (0 : Int) ≤ 0; omega, by show (0 : Int) ≤ 1; omega, by simp [pv]⟩, ?_⟩
  rintro ⟨c, x, out⟩ ⟨i, hx, hi, hlen, hw, hc0, hc1, hpv⟩
  simp only at hx hi hlen hw hc0 hc1 hpv
  subst hx
  have hxl := ha i
  have hxm := hb i
  refine condT (fun hlt => ?_) (fun hge => ?_)
  · refine ref01_word_s ha (ref01_word_s hb (letIn ⟨app_ok (by omega), by unfold rng; omega, ?_, by dsimp only; omega⟩))
    rw [wrap_u64_id (m := a.getD i 0 + b.getD i 0) (by omega) (by omega), wrap_u64_id (by omega) (by omega), wrap_u32]
    have e32 : ∀ z : Int, z / 2 ^ Int.toNat 32 = z / 4294967296 := fun _ => rfl
    rw [e32]
    generalize hd : a.getD i 0 + b.getD i 0 + c = d
    refine ⟨i + 1, rfl, by omega, by simp [hlen], hw.append (Words.one (by omega) (by omega)), by show 0 ≤ d / 4294967296; omega, by show d / 4294967296 ≤ 1; omega, ?_⟩
    show pv (out ++ [d % 4294967296]) (i + 1) + d / 4294967296 * _ = _
    rw [pv_snoc hlen, Int.pow_succ, pv, pv, Int.add_assoc, split_w, ← hd, Int.add_mul, Int.add_mul]
    omega
  · obtain rfl : i = n := by omega
    refine ref01_Trim_s hw (by unfold SM; omega) ?_
    have e : val out = val a + val b := by
      have a1 := val_pv' hw (i := i) (by omega)
      have a2 := val_pv' ha (i := i) (by omega)
      have a3 := val_pv' hb (i := i) (by omega)
      have b2 := pv_ge (l := a) (i - 1) (by omega)
      have b3 := pv_ge (l := b) (i - 1) (by omega)
      have b4 := pv_ge (l := a) i (by omega)
      have b5 := pv_ge (l := b) i (by omega)
      have c2 := (pv_bound ha (i - 1)).2
      have c3 := (pv_bound hb (i - 1)).2
      have c4 := (pv_bound hw i).1
      have hi1 : i = i - 1 + 1 := by omega
      have hc := hpv
      rw [hi1, Int.pow_succ, ← hi1] at hc
      have := carry_zero hc (by omega) (by omega) (by omega) hc0 hc1 (pow_pos_w _)
      subst this
      omega
    rw [e]
    exact h
theorem ref01_Sub_s {a b : List Int} {Q : List Int → Int → Prop} (ha : Words a) (hb : Words b) (la : SM a) (lb : SM b) (h1 : val a < val b → Q [] 3) (h2 : val b ≤ val a → Q (lim (val a - val b)) 0) : ref01_Sub_W a b Q := by
  refine ref01_Cmp_s ha hb la lb (condT (fun hc => h1 (cmpv_lt.1 hc)) (fun hc => ?_))
  have hge : val b ≤ val a := by have := mt cmpv_lt.2 hc; omega
  have h := h2 hge
  clear h1 h2
  unfold SM at la lb
  refine ⟨fun y => ∃ i : Nat, y.2.1 = i ∧ i ≤ a.length ∧ y.2.2.length = i ∧ Words y.2.2 ∧ 0 ≤ y.1 ∧ y.1 ≤ 1 ∧ pv y.2.2 i = pv a i - pv b i + y.1 * 4294967296 ^ i, fun y => a.length - y.2.1.toNat, ⟨0, rfl, by omega, rfl, Words.nil, by show (0 : Int) ≤ 0; omega, by show (0 : Int) ≤ 1; omega, by simp [pv]⟩, ?_⟩
  rintro ⟨c, x, out⟩ ⟨i, hx, hi, hlen, hw, hb0, hb1, hpv⟩
  simp only at hx hi hlen hw hb0 hb1 hpv
  subst hx
  have hxl := ha i
  have hxm := hb i
  obtain ⟨q1, q2, q3⟩ := sub_step (a.getD i 0) (b.getD i 0) c hxl hxm ⟨hb0, hb1⟩
  refine condT (fun hlt => ref01_word_s ha (ref01_word_s hb (letIn ⟨app_ok (by omega), by unfold rng; omega, ?_, by dsimp only; omega⟩))) (fun hge => ?_)
  · simp only [wrap_u32]
    generalize IntKind.u64.wrap (IntKind.u64.wrap (a.getD i 0 - b.getD i 0) - c) = d at *
    have e63 : d / 2 ^ Int.toNat 63 = d / 9223372036854775808 := rfl
    refine ⟨i + 1, rfl, by omega, by simp [hlen], hw.append (Words.one (by omega) (by omega)), by simpa only [e63] using q2, by simpa only [e63] using q3, ?_⟩
    simp only [e63]
    rw [pv_snoc hlen, Int.pow_succ, pv, pv, hpv]
    have e : d % 4294967296 = a.getD i 0 - b.getD i 0 - c + 4294967296 * (d / 9223372036854775808) := by omega
    rw [e]
    generalize d / 9223372036854775808 = d'
    have a1 := Int.add_mul (a.getD i 0 - b.getD i 0 - c) (4294967296 * d') (4294967296 ^ i)
    have a2 := Int.sub_mul (a.getD i 0 - b.getD i 0) c (4294967296 ^ i)
    have a3 := Int.sub_mul (a.getD i 0) (b.getD i 0) (4294967296 ^ i)
    have a4 : 4294967296 * d' * 4294967296 ^ i = d' * (4294967296 ^ i * 4294967296) := by rw [Int.mul_comm 4294967296 d', Int.mul_assoc, Int.mul_comm 4294967296]
    omega
  · obtain rfl : i = a.length := by omega
    refine ref01_Trim_s hw (by unfold SM; omega) ?_
    have e : val out = val a - val b := by
      have a1 := val_pv' hw (i := a.length) (by omega)
      have a2 := val_pv ha
      have a3 := pv_bound ha a.length
      have a4 := pv_bound hw a.length
      have a5 := pv_bound hb a.length
      have a6 := val_pv hb
      rcases Nat.lt_or_ge a.length b.length with h | h
      · have hm1 := pv_ge_low hb (Nat.le_of_lt h)
        rcases (by omega : c = 0 ∨ c = 1) with rfl | rfl
        · have hz : pv b b.length = pv b a.length := by
            refine pv_high hb (Nat.le_of_lt h) ?_
            omega
          omega
        · omega
      · have hm1 := val_pv' hb h
        rcases (by omega : c = 0 ∨ c = 1) with rfl | rfl <;> omega
    rw [e]
    exact h
theorem no_carry {X C A1 B1 P1 P2 : Int} (f1 : 0 ≤ X) (f2 : 1 * (P1 * P2) ≤ C * (P1 * P2)) (h : X + C * (P1 * P2) = A1 * B1) (a0 : 0 ≤ A1) (a1 : A1 < P1) (b0 : 0 ≤ B1) (b1 : B1 < P2) (p1 : 0 < P1) (p2 : 0 < P2) : False := by
  have h1 : A1 * B1 ≤ A1 * P2 := Int.mul_le_mul_of_nonneg_left (by omega) a0
  have h2 : A1 * P2 < P1 * P2 := Int.mul_lt_mul_of_pos_right a1 p2
  omega
set_option maxHeartbeats 1000000 in
theorem ref01_Mul_s {a b : List Int} {Q : List Int → Prop} (ha : Words a) (hb : Words b) (la : a.length + b.length ≤ 1099511627775) (h : Q (lim (val a * val b))) : ref01_Mul_W a b Q := by
  obtain ⟨N, hN⟩ : ∃ N, N = a.length + b.length + 1 := ⟨_, rfl⟩
  have hNi : (a.length : Int) + (b.length : Int) + 1 = (N : Int) := by omega
  have hL : (b.length : Int) + 1 = ((b.length + 1 : Nat) : Int) := by omega
  unfold ref01_Mul_W
  rw [hNi, hL]
  refine ⟨by unfold rng; omega, by unfold rng; omega, mk_ok (by omega) (by omega), ?_⟩
  refine ⟨fun y => ∃ i : Nat, y.1 = i ∧ i ≤ a.length ∧ y.2.length = N ∧ Words y.2 ∧ pv y.2 (i + b.length) = pv a i * pv b b.length ∧ (∀ p, i + b.length ≤ p → y.2.getD p 0 = 0), fun y => a.length - y.1.toNat,
    ⟨0, rfl, by omega, by simp [rep'], Words.rep _, by rw [rep_nat, pv_rep]; simp [pv], fun p hp => by rw [rep_nat, List.getD_eq_getElem?_getD, List.getElem?_replicate]; split <;> rfl⟩, ?_⟩
  rintro ⟨x, out⟩ ⟨i, hx, hi, hlen, hw, hpv, hz⟩
  simp only at hx hi hlen hw hz hpv
  subst hx
  have hxi := ha i
  refine condT (fun hlt => ⟨⟨by omega, hlt⟩, by unfold rng; omega, ?_⟩) (fun hge => ?_)
  · have hbl : pv b (b.length + 1) = pv b b.length := pv_ge _ (by omega)
    refine ⟨fun y => ∃ k : Nat, y.2.1 = k ∧ k ≤ b.length + 1 ∧ y.2.2.length = N ∧ Words y.2.2 ∧ (∀ p, i + (b.length + 1) ≤ p → y.2.2.getD p 0 = 0) ∧ 0 ≤ y.1 ∧ y.1 < 4294967296 ∧ (k = b.length + 1 → y.1 = 0) ∧
        pv y.2.2 N + y.1 * 4294967296 ^ (i + k) = pv a i * pv b b.length + a.getD i 0 * 4294967296 ^ i * pv b k, fun y => b.length + 1 - y.2.1.toNat,
      ⟨0, rfl, by omega, hlen, hw, fun p hp => hz p (by omega), by show (0 : Int) ≤ 0; omega, by show (0 : Int) < _; omega, by omega, ?_⟩, ?_⟩
    · show pv out N + 0 * _ = _
      rw [pv_zero (j := i + b.length) N (by omega) (fun k h1 h2 => hz k h1), hpv]; simp [pv]
    clear hpv hz hw hlen h
    rintro ⟨c, x1, out2⟩ ⟨k, hx, hk, hlen, hw, hz, hc0, hc1, hck, hpv⟩
    simp only at hx hk hlen hw hz hc0 hc1 hck hpv
    subst hx
    have hy := hb k
    have ho := hw (i + k)
    obtain ⟨q1, q2⟩ := mul_le_w hxi hy
    have eik : (i : Int) + (k : Int) = ((i + k : Nat) : Int) := by omega
    refine condT (fun hlt2 => ⟨b.getD k 0, ref01_word_s hb rfl, by unfold rng; omega, ⟨by omega, by omega⟩, by unfold rng; omega, ⟨by omega, by omega⟩, letIn ⟨by unfold rng; omega, ?_, by dsimp only; omega⟩⟩) (fun hge2 => ⟨by unfold rng; omega, ?_, by dsimp only; omega⟩)
    · simp only [eik, at_nat, set_nat]
      simp (disch := omega) only [wrap_u64_id, wrap_u32]
      have e32 : ∀ z : Int, z / 2 ^ Int.toNat 32 = z / 4294967296 := fun _ => rfl
      simp only [e32]
      generalize hv : a.getD i 0 * b.getD k 0 + out2.getD (i + k) 0 + c = v
      have hnew : pv (out2.set (i + k) (v % 4294967296)) N + v / 4294967296 * 4294967296 ^ (i + (k + 1)) = pv a i * pv b b.length + a.getD i 0 * 4294967296 ^ i * pv b (k + 1) := by
        rw [pv_set_full (by omega) N (by omega), pv, ← Nat.add_assoc, Int.pow_succ, Int.mul_add, ← Int.add_assoc, ← hpv]
        have s1 := split_w v (4294967296 ^ (i + k))
        have s2 := Int.sub_mul (v % 4294967296) (out2.getD (i + k) 0) (4294967296 ^ (i + k))
        have s3 : v * 4294967296 ^ (i + k) = a.getD i 0 * 4294967296 ^ i * (b.getD k 0 * 4294967296 ^ k) + out2.getD (i + k) 0 * 4294967296 ^ (i + k) + c * 4294967296 ^ (i + k) := by
          rw [← hv, Int.add_mul, Int.add_mul, Int.pow_add]
          congr 2
          rw [Int.mul_assoc, Int.mul_assoc, Int.mul_left_comm (b.getD k 0)]
        omega
      refine ⟨k + 1, rfl, by omega, by simp [hlen], hw.set _ (by omega) (by omega), fun p hp => ?_, by show 0 ≤ v / 4294967296; omega, by show v / 4294967296 < 4294967296; omega, fun hkb => ?_, hnew⟩
      · show (out2.set (i + k) _).getD p 0 = 0
        rw [getD_set_of_ne (by omega)]; exact hz p hp
      · show v / 4294967296 = 0
        have : k = b.length := by omega
        have hy0 : b.getD k 0 = 0 := getD_ge (by omega)
        have ho0 : out2.getD (i + k) 0 = 0 ∨ True := .inr trivial
        rw [hy0, Int.mul_zero] at hv
        -- what is there already and the carry: less than two words, bounded by the sum
        rcases Int.lt_or_le v 4294967296 with h1 | h1
        · omega
        · exfalso
          have f1 := (pv_bound (hw.set (i + k) (x := v % 4294967296) (by omega) (by omega)) N).1
          have f2 : 1 * (4294967296 : Int) ^ (i + (k + 1)) ≤ v / 4294967296 * 4294967296 ^ (i + (k + 1)) := Int.mul_le_mul_of_nonneg_right (by omega) (by have := pow_pos_w (i + (k + 1)); omega)
          have f3 := (pv_bound ha (i + 1)).2
          have f4 := pv_bound hb b.length
          have f5 : pv a i * pv b b.length + a.getD i 0 * 4294967296 ^ i * pv b (k + 1) = pv a (i + 1) * pv b b.length := by
            have : pv b (k + 1) = pv b b.length := pv_ge _ (by omega)
            rw [this, pv, Int.add_mul]
          have f7 : (4294967296 : Int) ^ (i + (k + 1)) = 4294967296 ^ (i + 1) * 4294967296 ^ b.length := by rw [← Int.pow_add]; congr 1; omega
          have f9 := pow_pos_w (i + 1)
          have f10 := pow_pos_w b.length
          rw [f5, f7] at hnew
          rw [f7] at f2
          have f0 := (pv_bound ha (i + 1)).1
          generalize (4294967296 : Int) ^ (i + 1) = P1 at *
          generalize (4294967296 : Int) ^ b.length = P2 at *
          generalize pv a (i + 1) = A1 at *
          generalize pv b b.length = B1 at *
          exact no_carry f1 f2 hnew f0 f3 f4.1 f4.2 f9 f10
    · obtain rfl : k = b.length + 1 := by omega
      have := hck rfl
      subst this
      refine ⟨i + 1, rfl, by omega, hlen, hw, ?_, fun p hp => hz p (by omega)⟩
      show pv out2 (i + 1 + b.length) = pv a (i + 1) * pv b b.length
      rw [← pv_zero (j := i + 1 + b.length) N (by omega) (fun k h1 h2 => hz k (by omega)), pv, Int.add_mul]
      rw [hbl] at hpv
      omega
  · obtain rfl : i = a.length := by omega
    refine ref01_Trim_s hw (by unfold SM; omega) ?_
    have e : val out = val a * val b := by
      have a1 := val_pv' hw (i := N) (by omega)
      rw [pv_zero (j := a.length + b.length) N (by omega) (fun k h1 h2 => hz k h1), hpv] at a1
      have a2 := val_pv ha
      have a3 := val_pv hb
      have : ((val a * val b : Nat) : Int) = (val a : Int) * (val b : Int) := by simp
      have : (val out : Int) = ((val a * val b : Nat) : Int) := by rw [this, a1, a2, a3]
      omega
    rw [e]
    exact h
end Go.Gg
