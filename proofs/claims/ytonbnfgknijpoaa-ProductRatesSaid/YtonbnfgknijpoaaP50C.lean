/- The stationary distribution, and the law of the rates. Conditions: the numbers fit the machine. -/
import Derived.Test.YtonbnfgknijpoaaP50B
namespace Go.Gg

/-- The probability that just these components of the first n have failed. -/
def pr (u : Nat → Rat) : Nat → Nat → Rat
  | 0, _ => 1
  | n + 1, x => pr u n x * (if x / 2 ^ n % 2 = 0 then 1 - u n else u n)
theorem pr_low {u : Nat → Rat} {m c x : Nat} : ∀ n, n ≤ m → pr u n (2 ^ m * c + x) = pr u n x
  | 0, _ => rfl
  | n + 1, h => by
    rw [pr, pr, pr_low n (by omega)]
    have e : (2 ^ m * c + x) / 2 ^ n % 2 = x / 2 ^ n % 2 := by
      have h1 : 2 ^ m = 2 ^ n * (2 * 2 ^ (m - n - 1)) := by
        rw [← Nat.pow_succ', ← Nat.pow_add]; congr 1; omega
      rw [h1, Nat.mul_assoc, Nat.mul_add_div (Nat.pow_pos (by omega)), Nat.mul_assoc, Nat.mul_add_mod]
    rw [e]
def Lst (u : Nat → Rat) (n : Nat) : List GRat := (List.range (2 ^ n)).map fun x => ratOf (pr u n x)
theorem Lst_len {u : Nat → Rat} {n : Nat} : (Lst u n).length = 2 ^ n := by simp [Lst]
theorem Lst_succ {u : Nat → Rat} {n : Nat} : (List.range (2 ^ n)).map (fun x => ratOf (pr u n x * (1 - u n))) ++ (List.range (2 ^ n)).map (fun x => ratOf (pr u n x * u n)) = Lst u (n + 1) := by
  unfold Lst
  rw [Nat.pow_succ, Nat.mul_two, List.range_add, List.map_append, List.map_map]
  congr 1
  · refine List.map_congr_left fun x hx => ?_
    rw [List.mem_range] at hx
    rw [pr, Nat.div_eq_of_lt hx, if_pos rfl]
  · refine List.map_congr_left fun x hx => ?_
    rw [List.mem_range] at hx
    have h1 := pr_low (u := u) (m := n) (c := 1) (x := x) n (Nat.le_refl n)
    rw [Nat.mul_one] at h1
    show _ = ratOf (pr u (n + 1) (2 ^ n + x))
    rw [pr, h1, Nat.add_div_left _ (Nat.pow_pos (by omega)), Nat.div_eq_of_lt hx, if_neg (by omega)]
def uval (f r : List GRat) (i : Nat) : Rat := valR (at' f (i : Int)) / (valR (at' f (i : Int)) + valR (at' r (i : Int)))
theorem unav_ok {f r : GRat} (h1 : rateB f = true) (h2 : rateB r = true) (h3 : valR f + valR r ≠ 0) : unav f r = (ratOf (valR f / (valR f + valR r)), 0) := by
  unfold unav
  rw [if_neg (by rw [h1, h2]; simp), if_neg h3]
theorem RB_one {k : Nat} (hk : 1 ≤ k) : RB k 1 := RB_int (n := 1) hk (by
  have : 2 ^ 1 ≤ 2 ^ k := Nat.pow_le_pow_right (by omega) hk
  show 1 < 2 ^ k
  omega)
theorem pr_RB {u : Nat → Rat} {c n : Nat} (hc : 1 ≤ c) (h : ∀ i, i < n → RB c (u i) ∧ RB c (1 - u i)) (x : Nat) : RB (n * c + 1) (pr u n x) := by
  induction n with
  | zero => exact RB_one (by omega)
  | succ n ih =>
    rw [pr]
    refine (RB_mul (ih (fun i hi => h i (by omega))) (l := c) ?_).mono (by rw [Nat.add_mul]; omega)
    split
    · exact (h n (by omega)).2
    · exact (h n (by omega)).1
/-- The stationary distribution, or the error's number. -/
def statM (f r : List GRat) : List GRat × Int := if listsE f r = 0 then (Lst (uval f r) f.length, 0) else ([], listsE f r)
theorem uval_RB {f r : List GRat} {k : Nat} (hk : 1 ≤ k) (hf : Frs k f) (hr : Frs k r) (hl : f.length = r.length) {i : Nat} (hi : i < f.length) : RB (3 * k + 3) (uval f r i) ∧ RB (3 * k + 3) (1 - uval f r i) := by
  have h1 : RB (3 * k + 1) (uval f r i) := (RB_div (hf i hi).2 (RB_add (hf i hi).2 (hr i (by omega)).2)).mono (by omega)
  exact ⟨h1.mono (by omega), (RB_sub (RB_one (k := 1) (by omega)) h1).mono (by omega)⟩
theorem pow_le_256 {n : Nat} (h : n ≤ 8) : 2 ^ n ≤ 256 := Nat.le_trans (Nat.pow_le_pow_right (by omega) h) (by decide)

set_option maxHeartbeats 1000000 in
theorem product_Stationary_s {f r : List GRat} {k : Nat} {Q : List GRat → Option Int → Prop} (hk1 : 1 ≤ k) (hk : k ≤ 1000000000) (hf : Frs k f) (hr : Frs k r) (h : Q (statM f r).1 (errO (statM f r).2)) : product_Stationary_W f r Q := by
  refine product_check_s hf hr ?_
  unfold statM at h
  by_cases he : listsE f r = 0
  · rw [if_pos he] at h
    rw [he]
    obtain ⟨hl, h0, h8, hall⟩ := lists_zero he
    have hu := fun i (hi : i < f.length) => uval_RB hk1 hf hr hl hi
    refine ⟨fun hh => (by cases hh), fun _ => rational_Of_s (by unfold rng; omega) ?_⟩
    refine ⟨fun y => ∃ i : Nat, i ≤ f.length ∧ y = (Lst (uval f r) i, (i : Int)), fun y => f.length - y.2.toNat, ⟨0, by omega, rfl⟩, ?_⟩
    rintro _ ⟨i, hi, rfl⟩
    refine condT (fun hi2 => ?_) (fun hi2 => ?_)
    · have hi3 : i < f.length := by omega
      refine ⟨⟨by omega, hi2⟩, ⟨by omega, by omega⟩, _, _, product_Unavailable_s (hf i hi3).1 (hr i (by omega)).1 (hf i hi3).2 (hr i (by omega)).2 (by omega) ⟨rfl, rfl⟩, ?_⟩
      rw [unav_ok (hall i hi3).1.1 (hall i hi3).1.2 (hall i hi3).2]
      refine ⟨fun hh => (by cases hh), fun _ => ?_⟩
      have hprb := fun x => pr_RB (u := uval f r) (c := 3 * k + 3) (n := i) (by omega) (fun j hj => hu j (by omega)) x
      have hub := hu i hi3
      have hB : i * (3 * k + 3) + 1 ≤ 8 * (3 * k + 3) + 1 := by
        have := Nat.mul_le_mul_right (3 * k + 3) (show i ≤ 8 by omega)
        omega
      have hp := pow_le_256 (show i ≤ 8 by omega)
      refine ⟨fun y => ∃ j : Nat, j ≤ 2 ^ i ∧ y = ((j : Int), (List.range j).map (fun x => ratOf (pr (uval f r) i x * uval f r i)), (List.range j).map (fun x => ratOf (pr (uval f r) i x * (1 - uval f r i)))), fun y => 2 ^ i - y.1.toNat, ⟨0, Nat.zero_le _, rfl⟩, ?_⟩
      rintro _ ⟨j, hj, rfl⟩
      refine condT (fun hj2 => ?_) (fun hj2 => ?_)
      · rw [Lst_len] at hj2
        have hj3 : j < 2 ^ i := by omega
        have hat : at' (Lst (uval f r) i) (j : Int) = ratOf (pr (uval f r) i j) := at_map hj3
        have hpj := (hprb j).mono hB
        refine ⟨⟨by omega, by rw [Lst_len]; omega⟩, ?_⟩
        rw [hat]
        refine rational_Mul_s (Fr_ratOf hpj (by omega)) (Fr_ratOf hub.1 (by omega)) (by rw [valR_ratOf]; exact hpj) (by rw [valR_ratOf]; exact hub.1) (by omega) ?_
        rw [valR_ratOf]
        refine ⟨by simp; omega, _, rational_Of_s (by unfold rng; omega) rfl, _, rational_Sub_s (k := 1) (Fr_ratOf (RB_one (k := 1) (by omega)) (by omega)) (Fr_ratOf hub.1 (by omega)) (by rw [valR_ratOf]; exact RB_one (by omega)) (by rw [valR_ratOf]; exact hub.1) (by omega) rfl, ?_⟩
        rw [valR_ratOf, valR_ratOf]
        refine ⟨_, rational_Mul_s (Fr_ratOf hpj (by omega)) (Fr_ratOf hub.2 (by omega)) (by rw [valR_ratOf]; exact hpj) (by rw [valR_ratOf]; exact hub.2) (by omega) rfl, by simp; omega, by unfold rng; omega, ⟨j + 1, hj3, ?_⟩, by dsimp only; omega⟩
        rw [List.range_succ, List.map_append, List.map_append, valR_ratOf]
        simp only [valR_ratOf]
        rfl
      · rw [Lst_len] at hj2
        obtain rfl : j = 2 ^ i := by omega
        refine ⟨by simp; omega, by unfold rng; omega, ⟨i + 1, hi3, ?_⟩, by dsimp only; omega⟩
        rw [Lst_succ]
        rfl
    · obtain rfl : i = f.length := by omega
      exact h
  · rw [if_neg he] at h
    have e : errO (listsE f r) = some (listsE f r) := if_neg he
    rw [e] at h ⊢
    exact ⟨fun _ => h, fun hh => (by cases hh)⟩

theorem and_one64 {y : Int} (h0 : 0 ≤ y) (h1 : y < 4294967296) : bits .and .i64 y 1 = y % 2 := by
  obtain ⟨m, rfl⟩ := Int.eq_ofNat_of_zero_le h0
  show IntKind.i64.wrap (((BitVec.ofInt 64 (m : Int)) &&& (BitVec.ofInt 64 1)).toNat : Int) = _
  rw [BitVec.toNat_and, BitVec.toNat_ofInt, BitVec.toNat_ofInt]
  have e1 : ((m : Int) % ((2 ^ 64 : Nat) : Int)).toNat = m := by omega
  have e2 : ((1 : Int) % ((2 ^ 64 : Nat) : Int)).toNat = 1 := by omega
  rw [e1, e2, Nat.and_one_is_mod]
  have e3 : m % 2 = 0 ∨ m % 2 = 1 := by omega
  have e4 : (m : Int) % 2 = ((m % 2 : Nat) : Int) := by omega
  rw [e4]
  rcases e3 with e | e <;> rw [e] <;> rfl
set_option maxHeartbeats 1000000 in
theorem ref50_Stationary_s {f r : List GRat} {k : Nat} {Q : List GRat → Int → Prop} (hk1 : 1 ≤ k) (hk : k ≤ 1000000000) (hf : Frs k f) (hr : Frs k r) (h : Q (statM f r).1 (statM f r).2) : ref50_Stationary_W f r Q := by
  refine ref50_Lists_s (by omega) hf hr ?_
  unfold statM at h
  by_cases he : listsE f r = 0
  · rw [if_pos he] at h
    rw [he]
    obtain ⟨hl, h0, h8, hall⟩ := lists_zero he
    have hu := fun i (hi : i < f.length) => uval_RB hk1 hf hr hl hi
    have hp := pow_le_256 h8
    have hpw : (1 * 2 ^ (Int.toNat (f.length : Int)) : Int) = ((2 ^ f.length : Nat) : Int) := by rw [Int.toNat_natCast, Int.one_mul]; simp
    have hq : rng ((2 ^ f.length : Nat) : Int) := by
      generalize 2 ^ f.length = N at hp
      unfold rng; omega
    refine ⟨fun hh => (by cases hh), fun _ => ⟨⟨⟨by omega, by omega⟩, by rw [hpw]; exact hq⟩, ?_⟩⟩
    rw [hpw]
    refine ⟨fun y => ∃ j : Nat, j ≤ 2 ^ f.length ∧ y = ((j : Int), (List.range j).map (fun x => ratOf (pr (uval f r) f.length x))), fun y => 2 ^ f.length - y.1.toNat, ⟨0, Nat.zero_le _, rfl⟩, ?_⟩
    rintro _ ⟨j, hj, rfl⟩
    refine condT (fun hj2 => ?_) (fun hj2 => ?_)
    · have hj3 : j < 2 ^ f.length := by omega
      refine ref02_Of_s (by unfold rng; omega) ?_
      refine ⟨fun y => ∃ i : Nat, i ≤ f.length ∧ y = ((i : Int), ratOf (pr (uval f r) i j)), fun y => f.length - y.1.toNat, ⟨0, by omega, rfl⟩, ?_⟩
      rintro _ ⟨i, hi, rfl⟩
      refine condT (fun hi2 => ?_) (fun hi2 => ?_)
      · have hi3 : i < f.length := by omega
        refine ⟨⟨by omega, hi2⟩, ⟨by omega, by omega⟩, _, _, ref50_Unavailable_s (hf i hi3).1 (hr i (by omega)).1 (hf i hi3).2 (hr i (by omega)).2 (by omega) ⟨rfl, rfl⟩, ?_⟩
        rw [unav_ok (hall i hi3).1.1 (hall i hi3).1.2 (hall i hi3).2]
        have hprb := pr_RB (u := uval f r) (c := 3 * k + 3) (n := i) (by omega) (fun j hj => hu j (by omega)) j
        have hub := hu i hi3
        have hB : i * (3 * k + 3) + 1 ≤ 8 * (3 * k + 3) + 1 := by
          have := Nat.mul_le_mul_right (3 * k + 3) (show i ≤ 8 by omega)
          omega
        have hpj := hprb.mono hB
        refine joinIn ⟨⟨by omega, by omega⟩, ?_⟩
        have hbit : (bits .and .i64 ((j : Int) / 2 ^ (Int.toNat (i : Int))) 1) = ((j / 2 ^ i % 2 : Nat) : Int) := by
          have e : ((j : Int) / 2 ^ (Int.toNat (i : Int))) = ((j / 2 ^ i : Nat) : Int) := by rw [Int.toNat_natCast]; simp
          have := Nat.div_le_self j (2 ^ i)
          rw [e]
          generalize j / 2 ^ i = z at this
          generalize 2 ^ f.length = N at hp hj3
          rw [and_one64 (by omega) (by omega)]
          omega
        rw [hbit]
        have hnext : ∀ v : Rat, RB (3 * k + 3) v → pr (uval f r) (i + 1) j = pr (uval f r) i j * v → ref02_Mul_W (ratOf (pr (uval f r) i j)) (ratOf v) fun r3 => rng ((i : Int) + 1) ∧ ((fun z : Int × GRat => (∃ i : Nat, i ≤ f.length ∧ z = ((i : Int), ratOf (pr (uval f r) i j))) ∧ f.length - z.1.toNat < f.length - (i : Int).toNat) ((i : Int) + 1, r3)) := by
          intro v hv hev
          refine ref02_Mul_s (Fr_ratOf hpj (by omega)) (Fr_ratOf hv (by omega)) (by rw [valR_ratOf]; exact hpj) (by rw [valR_ratOf]; exact hv) (by omega) ?_
          rw [valR_ratOf, valR_ratOf]
          refine ⟨by unfold rng; omega, ⟨i + 1, hi3, ?_⟩, by dsimp only; omega⟩
          rw [hev]; rfl
        refine condE (fun hb => ?_) (fun hb => ?_)
        · refine ⟨_, ref02_Of_s (by unfold rng; omega) rfl, _, ref02_Sub_s (k := 1) (Fr_ratOf (RB_one (k := 1) (by omega)) (by omega)) (Fr_ratOf hub.1 (by omega)) (by rw [valR_ratOf]; exact RB_one (by omega)) (by rw [valR_ratOf]; exact hub.1) (by omega) rfl, ?_⟩
          rw [valR_ratOf, valR_ratOf]
          exact hnext _ hub.2 (by rw [pr, if_pos (Int.ofNat.inj hb)]; rfl)
        · exact hnext _ hub.1 (by rw [pr, if_neg (fun e => hb (by rw [e]; rfl))]; rfl)
      · obtain rfl : i = f.length := by omega
        refine ⟨by simp; omega, by unfold rng; omega, ⟨j + 1, hj3, ?_⟩, by dsimp only; omega⟩
        rw [List.range_succ, List.map_append]
        rfl
    · obtain rfl : j = 2 ^ f.length := by omega
      exact h
  · rw [if_neg he] at h
    refine ⟨fun _ => h, fun hh => absurd (by simpa using hh) he⟩
end Go.Gg
