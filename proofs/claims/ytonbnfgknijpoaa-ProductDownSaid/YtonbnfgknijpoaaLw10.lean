/- The law ProductDown, over the formula. Conditions: the arguments' words are words. -/
import Derived.Test.YtonbnfgknijpoaaM50f
import Derived.Test.YtonbnfgknijpoaaLw9
import Derived.Test.YtonbnfgknijpoaaWLProductDown
namespace Go.Gg

theorem node_congr {f f' : GFormula} {i : Nat} (hv : f'.Vars = f.Vars) (h : at' f'.Nodes (i : Int) = at' f.Nodes (i : Int)) : nodeE f' i = nodeE f i := by
  unfold nodeE
  rw [hv, h]
theorem vals_ext {f f' : GFormula} {s N : Nat} (hv : f'.Vars = f.Vars) (h : ∀ i : Nat, i < N → at' f'.Nodes (i : Int) = at' f.Nodes (i : Int)) : ∀ i, i ≤ N → vals f' s i = vals f s i
  | 0, _ => by rw [vals, vals, hv]
  | i + 1, hi => by rw [vals, vals, vals_ext hv h i (by omega), h i (by omega)]
/-- The negation. -/
def notF (f : GFormula) : GFormula := ⟨f.Vars, f.Nodes ++ [⟨1, 0, [f.Top]⟩], f.Vars + f.Nodes.length⟩
theorem notF_at {f : GFormula} {i : Nat} (h : i < f.Nodes.length) : at' (notF f).Nodes (i : Int) = at' f.Nodes (i : Int) := at_app_left (by omega) (by omega)
theorem notF_last {f : GFormula} : at' (notF f).Nodes (f.Nodes.length : Int) = ⟨1, 0, [f.Top]⟩ := at_app_mid
theorem notF_FG {f : GFormula} (g : FG f) (hn : f.Nodes.length < 128) : FG (notF f) := by
  have v0 := g.v0
  have v24 := g.v24
  have t0 := g.top0
  have t1 := g.top
  have hl : (notF f).Nodes.length = f.Nodes.length + 1 := by simp [notF]
  refine ⟨v0, v24, by omega, fun i hi => ?_, ?_, ?_⟩
  · rcases Nat.lt_or_ge i f.Nodes.length with h | h
    · rw [node_congr (f := f) (f' := notF f) rfl (notF_at h)]; exact g.node i h
    · obtain rfl : i = f.Nodes.length := by omega
      unfold nodeE
      rw [notF_last]
      rw [if_neg (show ¬ ((1 : Int) < 0 ∨ 5 < (1 : Int)) by omega), if_neg (by simp [argsB]), if_neg, if_neg (show ¬ (1 : Int) = 0 by omega), if_neg (show ¬ (1 : Int) = 4 by omega), if_neg (show ¬ (0 : Int) ≠ 0 by omega)]
      rintro ⟨j, hj, hb⟩
      have hj0 : j = 0 := by simpa using hj
      subst hj0
      have hb : f.Top < 0 ∨ f.Vars + (f.Nodes.length : Int) ≤ f.Top := hb
      omega
  · show 0 ≤ f.Vars + (f.Nodes.length : Int); omega
  · show f.Vars + (f.Nodes.length : Int) < f.Vars + ((notF f).Nodes.length : Int); omega
theorem notF_FV {f : GFormula} {s : Nat} (g : FG f) : FV (notF f) s = !FV f s := by
  have hl : (notF f).Nodes.length = f.Nodes.length + 1 := by simp [notF]
  have v0 := g.v0
  unfold FV
  rw [hl, vals, vals_ext (f := f) (f' := notF f) rfl (fun i hi => notF_at hi) f.Nodes.length (Nat.le_refl _), notF_last]
  have e : (notF f).Top = ((vals f s f.Nodes.length).length : Int) := by
    rw [vals_len]
    show f.Vars + (f.Nodes.length : Int) = _
    omega
  rw [e, at_app_mid]
  show kindV ⟨1, 0, [f.Top]⟩ (cnt ⟨1, 0, [f.Top]⟩ (vals f s f.Nodes.length) 1) = _
  have c : cnt ⟨1, 0, [f.Top]⟩ (vals f s f.Nodes.length) 1 = if at' (vals f s f.Nodes.length) f.Top = true then 1 else 0 := by
    show 0 + (if at' (vals f s f.Nodes.length) (at' [f.Top] ((0 : Nat) : Int)) = true then 1 else 0) = _
    rw [Nat.zero_add]; rfl
  rw [c]
  cases at' (vals f s f.Nodes.length) f.Top <;> rfl
theorem pr_u {u v : Nat → Rat} {x : Nat} : ∀ n, (∀ i, i < n → u i = v i) → pr u n x = pr v n x
  | 0, _ => rfl
  | n + 1, h => by rw [pr, pr, pr_u n (fun i hi => h i (by omega)), h n (by omega)]
theorem at_sub {α : Type} [Inhabited α] {l : List α} {m i : Nat} (h : i < m) : at' (sub' l 0 (m : Int)) (i : Int) = at' l (i : Int) := by
  simp only [at', sub', Int.toNat_natCast, List.getD_eq_getElem?_getD]
  simp [List.getElem?_take, h]
theorem sub_len {α : Type} {l : List α} {m : Nat} (h : m ≤ l.length) : (sub' l 0 (m : Int)).length = m := by
  simp [sub']; omega
theorem sumTo_succ {g : Nat → Rat} {n : Nat} : sumTo g (n + 1) = sumTo g n + g n := rfl
theorem or_zero : ∀ s : Nat, s < 256 → bits .or .i64 (s : Int) 0 = (s : Int) := by decide +kernel
/-- What is true among the lower and the upper half. -/
def h0R (u : Nat → Rat) (f : GFormula) (m y : Nat) : Rat := if FV f y = true then pr u m y else 0
def h1R (u : Nat → Rat) (f : GFormula) (m y : Nat) : Rat := if FV f (y + 2 ^ m) = true then pr u m y else 0
theorem down_halves {u : Nat → Rat} {f : GFormula} {m : Nat} : sumTo (fun y => if FV f y = true then pr u (m + 1) y else 0) (2 ^ (m + 1)) = u m * sumTo (h1R u f m) (2 ^ m) + (1 - u m) * sumTo (h0R u f m) (2 ^ m) := by
  rw [Nat.pow_succ, Nat.mul_two, sumTo_add]
  have e1 : sumTo (fun y => if FV f y = true then pr u (m + 1) y else 0) (2 ^ m) = sumTo (fun y => h0R u f m y * (1 - u m)) (2 ^ m) := sumTo_congr _ fun y hy => by
    unfold h0R
    rw [pr_lo hy]
    split
    · rfl
    · rw [Rat.zero_mul]
  have e2 : sumTo (fun y => if FV f (2 ^ m + y) = true then pr u (m + 1) (2 ^ m + y) else 0) (2 ^ m) = sumTo (fun y => h1R u f m y * u m) (2 ^ m) := sumTo_congr _ fun y hy => by
    unfold h1R
    rw [pr_hi hy, Nat.add_comm y]
    split
    · rfl
    · rw [Rat.zero_mul]
  rw [e1, e2, sumTo_mul, sumTo_mul]
  grind
theorem down_Lst {u : Nat → Rat} {f : GFormula} {n : Nat} (h1 : 1 ≤ n) (h8 : n ≤ 8) (hc : chkM f = 0) (hv : f.Vars = (n : Int)) : downM (Lst u n) f = (ratOf (sumTo (fun y => if FV f y = true then pr u n y else 0) (2 ^ n)), 0) := by
  unfold downM
  rw [compM_Lst h1 h8, if_neg (fun hh => hh rfl), if_neg (fun hh => hh hc), if_neg (fun hh => hh hv), Lst_len]
  congr 2
  refine sumTo_congr _ fun y hy => ?_
  unfold dwD
  rw [Lst_at hy, valR_ratOf]
set_option maxHeartbeats 1000000 in
theorem law50_ProductDown_s {x : GRates} {f : GFormula} {Q : Bool → Prop} (l1 : x.Fail.length ≤ 9223372036854775807) (l2 : x.Repair.length ≤ 9223372036854775807) (w1 : WrL x.Fail) (w2 : WrL x.Repair) (ht : rng f.Top) (h : Q true) : law50_ProductDown_W x f Q := by
  refine ⟨fun y => y = false → (Frs 65 x.Fail ∧ Frs 65 x.Repair) ∧ chkM f = 0 ∧ f.Vars = (x.Fail.length : Int) ∧ f.Nodes.length < 128, ?_, ?_⟩
  · refine law50_awake_s (condB (fun hh => (by cases hh)) fun _ => ?_)
    refine law50_short_s l1 fun r1 h1 => condB (fun _ hh => (by cases hh)) fun e1 => ?_
    refine law50_short_s l2 fun r2 h2 => condB (fun _ hh => (by cases hh)) fun e2 => law08_Light_s fun b => condB (fun _ hh => by cases hh) fun _ => formula_Check_s ht ?_
    rw [isSome_errO]
    refine condT (fun _ hh => by cases hh) fun hc => condN (fun _ hh => by cases hh) fun hv hd => ?_
    have h1 := (h1 (by simpa using e1)).2
    have h2 := (h2 (by simpa using e2)).2
    have hd := of_decide_eq_false hd
    exact ⟨⟨fun i hi => Two_Fr (w1 i hi) (h1 i hi), fun i hi => Two_Fr (w2 i hi) (h2 i hi)⟩, Classical.not_not.1 hc, hv, by omega⟩
  · intro y hy
    refine condB (fun _ => law50_awake_s h) fun hf => ?_
    obtain ⟨⟨f1, f2⟩, hck, hv, hn128⟩ := hy hf
    have g := chk_ok.1 hck
    have ng := notF_FG g hn128
    refine product_Stationary_s (k := 65) (by omega) (by omega) f1 f2 ?_
    unfold statM
    by_cases hc : listsE x.Fail x.Repair = 0
    · rw [if_pos hc]
      obtain ⟨hl, h0, h8, hall⟩ := lists_zero hc
      have hp := pow_le_256 h8
      have hB : x.Fail.length * (3 * 65 + 3) + 1 ≤ 1585 := by
        have := Nat.mul_le_mul_right (3 * 65 + 3) h8
        omega
      have hprb : ∀ n, n ≤ x.Fail.length → ∀ s, RB 1585 (pr (uval x.Fail x.Repair) n s) := fun n hn s => (pr_RB (u := uval x.Fail x.Repair) (c := 3 * 65 + 3) (n := n) (by omega) (fun j hj => uval_RB (by omega) f1 f2 hl (by omega)) s).mono (Nat.le_trans (Nat.add_le_add_right (Nat.mul_le_mul_right (3 * 65 + 3) hn) 1) hB)
      have hLf : Frs 1585 (Lst (uval x.Fail x.Repair) x.Fail.length) := fun i hi => by
        rw [Lst_len] at hi
        rw [Lst_at hi]
        exact ⟨Fr_ratOf (hprb _ (Nat.le_refl _) i) (by decide), by rw [valR_ratOf]; exact hprb _ (Nat.le_refl _) i⟩
      have hLl : (Lst (uval x.Fail x.Repair) x.Fail.length).length ≤ 256 := by rw [Lst_len]; exact hp
      have hd1 := down_Lst (u := uval x.Fail x.Repair) (f := f) h0 h8 hck hv
      have hd2 := down_Lst (u := uval x.Fail x.Repair) (f := notF f) h0 h8 (chk_ok.2 ng) hv
      refine condB (fun hh => by cases hh) fun _ => ⟨by rw [List.nil_append]; omega, by rw [List.nil_append, List.length_append, List.length_singleton]; omega, by unfold rng; omega, ?_⟩
      refine product_Down_s (Nat.le_trans hLl (by omega)) ht (B := 1585) (by omega) (by omega) hLf ?_
      rw [List.nil_append, ← hv]
      show product_Down_W _ (notF f) _
      refine product_Down_s (Nat.le_trans hLl (by omega)) (show rng (f.Vars + (f.Nodes.length : Int)) by unfold rng; omega) (B := 1585) (by omega) (by omega) hLf ?_
      rw [hd1, hd2]
      have hrb : ∀ (φ : GFormula) j, j ≤ 2 ^ x.Fail.length → RB 406017 (sumTo (fun y => if FV φ y = true then pr (uval x.Fail x.Repair) x.Fail.length y else 0) j) := fun φ j hj => (sumTo_RB (B := 1585) j (fun i _ => by
        split
        · exact hprb _ (Nat.le_refl _) i
        · exact RB_zero _ (by omega))).mono (bnd1 (Nat.le_trans hj hp))
      have ra := Rp.of (hrb f _ (Nat.le_refl _)) (show 406017 ≤ cap by decide)
      have rb := Rp.of (hrb (notF f) _ (Nat.le_refl _)) (show 406017 ≤ cap by decide)
      have hone : sumTo (fun y => if FV f y = true then pr (uval x.Fail x.Repair) x.Fail.length y else 0) (2 ^ x.Fail.length) + sumTo (fun y => if FV (notF f) y = true then pr (uval x.Fail x.Repair) x.Fail.length y else 0) (2 ^ x.Fail.length) = 1 := by
        rw [sumTo_add2, ← total_one (u := uval x.Fail x.Repair) x.Fail.length]
        refine sumTo_congr _ fun y _ => ?_
        rw [notF_FV g]
        cases FV f y
        · rw [if_neg (by decide), if_pos (by decide), Rat.zero_add]
        · rw [if_pos rfl, if_neg (by decide), Rat.add_zero]
      refine condB (fun hh => by cases hh) fun _ => condB (fun hh => by cases hh) fun _ => add_p ra rb (by decide) fun r1 => of_p (by unfold rng; omega) fun r2 => cmp_p r1 r2 (by decide) (condN (fun hh => absurd (sgnR_eq.2 ?_) hh) fun _ => ?_)
      · rw [hone]; exact sub_eq_zero.2 rfl
      obtain ⟨m, hm⟩ : ∃ m, x.Fail.length = m + 1 := ⟨x.Fail.length - 1, by omega⟩
      have e1 : f.Vars - 1 = (m : Int) := by omega
      have huv := unav_ok (hall m (by omega)).1.1 (hall m (by omega)).1.2 (hall m (by omega)).2
      rw [e1]
      refine ⟨by unfold rng; omega, ⟨by omega, by omega⟩, by unfold rng; omega, ⟨by omega, by omega⟩, ?_⟩
      refine ⟨_, _, product_Unavailable_s (f1 m (by omega)).1 (f2 m (by omega)).1 (f1 m (by omega)).2 (f2 m (by omega)).2 (by omega) ⟨rfl, rfl⟩, ?_⟩
      rw [huv]
      refine condB (fun hh => by cases hh) fun _ => condT (fun _ => h) fun hn2 => ?_
      have hsub : (sub' x.Fail 0 (m : Int)).length = m ∧ (sub' x.Repair 0 (m : Int)).length = m := ⟨sub_len (by omega), sub_len (by omega)⟩
      have f1' : Frs 65 (sub' x.Fail 0 (m : Int)) := fun i hi => by rw [hsub.1] at hi; rw [at_sub hi]; exact f1 i (by omega)
      have f2' : Frs 65 (sub' x.Repair 0 (m : Int)) := fun i hi => by rw [hsub.2] at hi; rw [at_sub hi]; exact f2 i (by omega)
      have hc' : listsE (sub' x.Fail 0 (m : Int)) (sub' x.Repair 0 (m : Int)) = 0 := by
        unfold listsE
        rw [if_neg (by omega), if_neg (by omega), if_neg, if_neg]
        · rintro ⟨i, hi, hb⟩
          rw [hsub.1] at hi
          rw [at_sub hi, at_sub hi] at hb
          exact (hall i (by omega)).2 hb
        · rintro ⟨i, hi, hb⟩
          rw [hsub.1] at hi
          rw [at_sub hi, at_sub hi, (hall i (by omega)).1.1, (hall i (by omega)).1.2] at hb
          rcases hb with hb | hb <;> cases hb
      have hst : statM (sub' x.Fail 0 (m : Int)) (sub' x.Repair 0 (m : Int)) = (Lst (uval x.Fail x.Repair) m, 0) := by
        unfold statM
        rw [if_pos hc', hsub.1]
        unfold Lst
        congr 1
        refine List.map_congr_left fun y _ => ?_
        congr 1
        refine pr_u m fun i hi => ?_
        unfold uval
        rw [at_sub hi, at_sub hi]
      refine ⟨by unfold rng; omega, ⟨by omega, by omega, by omega⟩, by unfold rng; omega, ⟨by omega, by omega, by omega⟩, ?_⟩
      refine ⟨_, _, product_Stationary_s (k := 65) (by omega) (by omega) f1' f2' ⟨rfl, rfl⟩, ?_⟩
      rw [hst]
      obtain ⟨e2, hrg⟩ := pow_range (n := m) (by omega)
      have hpm := pow_le_256 (n := m) (by omega)
      refine condB (fun hh => by cases hh) fun _ => ⟨by unfold rng; omega, ⟨⟨by omega, by omega⟩, hrg⟩, ?_⟩
      dsimp only
      rw [e2]
      have hlm : (Lst (uval x.Fail x.Repair) m).length = 2 ^ m := Lst_len
      refine condN (fun hne => absurd (show ((Lst (uval x.Fail x.Repair) m).length : Int) = ((2 ^ m : Nat) : Int) by rw [hlm]) hne) fun _ => ?_
      have hr0 : ∀ j, j ≤ 2 ^ m → RB 406017 (sumTo (h0R (uval x.Fail x.Repair) f m) j) := fun j hj => (sumTo_RB (B := 1585) j (fun i _ => by
        unfold h0R
        split
        · exact hprb m (by omega) i
        · exact RB_zero _ (by omega))).mono (bnd1 (Nat.le_trans hj hpm))
      have hr1 : ∀ j, j ≤ 2 ^ m → RB 406017 (sumTo (h1R (uval x.Fail x.Repair) f m) j) := fun j hj => (sumTo_RB (B := 1585) j (fun i _ => by
        unfold h1R
        split
        · exact hprb m (by omega) i
        · exact RB_zero _ (by omega))).mono (bnd1 (Nat.le_trans hj hpm))
      refine loopUp (n := 2 ^ m) (fun j => ((j : Int), (ratOf (sumTo (h0R (uval x.Fail x.Repair) f m) j)).Neg, (ratOf (sumTo (h0R (uval x.Fail x.Repair) f m) j)).Num, (ratOf (sumTo (h0R (uval x.Fail x.Repair) f m) j)).Den, (ratOf (sumTo (h1R (uval x.Fail x.Repair) f m) j)).Neg, (ratOf (sumTo (h1R (uval x.Fail x.Repair) f m) j)).Num, (ratOf (sumTo (h1R (uval x.Fail x.Repair) f m) j)).Den)) (fun y => y.1) 0 (fun j => by dsimp only; omega) rfl ?_ ?_
      · intro j next hj hn
        have h256 : j < 256 := Nat.lt_of_lt_of_le hj hpm
        have hlo : j / 2 ^ m % 2 = 0 := by rw [Nat.div_eq_of_lt hj]
        have hat : at' (Lst (uval x.Fail x.Repair) m) (j : Int) = ratOf (pr (uval x.Fail x.Repair) m j) := Lst_at hj
        have rj := Rp.of (hprb m (by omega) j) (show 1585 ≤ cap by decide)
        refine condT (fun hc3 => ⟨⟨by omega, hc3⟩, ?_⟩) (fun hc3 => absurd (show (j : Int) < ((Lst (uval x.Fail x.Repair) m).length : Int) by rw [hlm]; exact Int.ofNat_lt.2 hj) hc3)
        refine loopUp (n := 2) (fun k => ((k : Int), (ratOf (sumTo (h0R (uval x.Fail x.Repair) f m) (if 0 < k then j + 1 else j))).Neg, (ratOf (sumTo (h0R (uval x.Fail x.Repair) f m) (if 0 < k then j + 1 else j))).Num, (ratOf (sumTo (h0R (uval x.Fail x.Repair) f m) (if 0 < k then j + 1 else j))).Den, (ratOf (sumTo (h1R (uval x.Fail x.Repair) f m) (if 1 < k then j + 1 else j))).Neg, (ratOf (sumTo (h1R (uval x.Fail x.Repair) f m) (if 1 < k then j + 1 else j))).Num, (ratOf (sumTo (h1R (uval x.Fail x.Repair) f m) (if 1 < k then j + 1 else j))).Den)) (fun y => y.1) 0 (fun k => by dsimp only; omega) rfl ?_ ?_
        · intro k next2 hk hn2
          refine condT (fun _ => ?_) (fun hh => absurd (show (k : Int) < 2 by omega) hh)
          have hk01 : k = 0 ∨ k = 1 := by omega
          rcases hk01 with rfl | rfl
          · have hor : bits .or .i64 (j : Int) (((0 : Nat) : Int) * 2 ^ (Int.toNat (m : Int))) = ((j : Nat) : Int) := by
              rw [show ((0 : Nat) : Int) * 2 ^ (Int.toNat (m : Int)) = 0 from Int.zero_mul _]; exact or_zero j h256
            refine ⟨by unfold rng; omega, ⟨⟨by omega, by omega⟩, by rw [show ((0 : Nat) : Int) * 2 ^ (Int.toNat (m : Int)) = 0 from Int.zero_mul _]; unfold rng; omega⟩, ?_⟩
            rw [hor]
            have hck2 : chk2 f (j : Int) = 0 := chk2_ok hck (n := m + 1) (by omega) (by rw [Nat.pow_succ]; omega)
            refine ⟨_, _, formula_Value_s ht (fun hh => absurd hck2 hh) (fun _ => ⟨rfl, rfl⟩), ?_⟩
            rw [Int.toNat_natCast]
            refine condB (fun hh => by cases hh) fun _ => condB (fun hb => condE (fun _ => ?_) (fun hh => absurd rfl hh)) (fun hb => ⟨by unfold rng; omega, ?_⟩)
            · rw [hat]
              refine add_pd (a := ratOf (sumTo (h0R (uval x.Fail x.Repair) f m) j)) (.of (hr0 j (by omega)) (by decide)) rj (by decide) fun _ => ⟨by unfold rng; omega, ?_⟩
              rw [show (if 0 < 0 + 1 then j + 1 else j) = j + 1 from rfl, sumTo_succ, show h0R (uval x.Fail x.Repair) f m j = pr (uval x.Fail x.Repair) m j from if_pos hb] at hn2
              exact hn2
            · rw [show (if 0 < 0 + 1 then j + 1 else j) = j + 1 from rfl, sumTo_succ, show h0R (uval x.Fail x.Repair) f m j = 0 from if_neg (by rw [hb]; simp), Rat.add_zero] at hn2
              exact hn2
          · have hsh : ((1 : Nat) : Int) * 2 ^ (Int.toNat (m : Int)) = 1 * 2 ^ m := by rw [Int.toNat_natCast]; rfl
            have hor : bits .or .i64 (j : Int) (((1 : Nat) : Int) * 2 ^ (Int.toNat (m : Int))) = ((j + 2 ^ m : Nat) : Int) := by
              rw [hsh]; exact (bits_tab j h256 m (by omega)).2.1 hlo
            refine ⟨by unfold rng; omega, ⟨⟨by omega, by omega⟩, hrg⟩, ?_⟩
            rw [hor]
            have hck2 : chk2 f ((j + 2 ^ m : Nat) : Int) = 0 := chk2_ok hck (n := m + 1) (by omega) (by rw [Nat.pow_succ]; omega)
            refine ⟨_, _, formula_Value_s ht (fun hh => absurd hck2 hh) (fun _ => ⟨rfl, rfl⟩), ?_⟩
            rw [Int.toNat_natCast]
            refine condB (fun hh => by cases hh) fun _ => condB (fun hb => condE (fun hh => absurd hh (show ¬ ((1 : Int) = 0) by decide)) (fun _ => condE (fun _ => ?_) (fun hh => absurd rfl hh))) (fun hb => ⟨by unfold rng; omega, ?_⟩)
            · rw [hat]
              refine add_pd (a := ratOf (sumTo (h1R (uval x.Fail x.Repair) f m) j)) (.of (hr1 j (by omega)) (by decide)) rj (by decide) fun _ => ⟨by unfold rng; omega, ?_⟩
              rw [show (if 1 < 1 + 1 then j + 1 else j) = j + 1 from rfl, sumTo_succ, show h1R (uval x.Fail x.Repair) f m j = pr (uval x.Fail x.Repair) m j from if_pos hb] at hn2
              exact hn2
            · rw [show (if 1 < 1 + 1 then j + 1 else j) = j + 1 from rfl, sumTo_succ, show h1R (uval x.Fail x.Repair) f m j = 0 from if_neg (by rw [hb]; simp), Rat.add_zero] at hn2
              exact hn2
        · intro next2
          exact condT (fun hh => absurd hh (show ¬ ((2 : Int) < 2) by decide)) (fun _ => ⟨by unfold rng; omega, hn⟩)
      · intro next
        refine condT (fun hh => absurd hh (by rw [hlm]; exact Int.lt_irrefl _)) (fun _ => ?_)
        have ru : Rp 198 (ratOf (uval x.Fail x.Repair m)) (uval x.Fail x.Repair m) := .of (uval_RB (by omega) f1 f2 hl (by omega)).1 (by decide)
        refine mul_pd (b := ratOf (sumTo (h1R (uval x.Fail x.Repair) f m) (2 ^ m))) ru (.of (hr1 _ (Nat.le_refl _)) (by decide)) (by decide) fun r3 => of_pd (by unfold rng; omega) fun r4 => sub_pd r4 ru (by decide) fun r5 => mul_pd (b := ratOf (sumTo (h0R (uval x.Fail x.Repair) f m) (2 ^ m))) r5 (.of (hr0 _ (Nat.le_refl _)) (by decide)) (by decide) fun r6 => add_pd r3 r6 (by decide) fun r7 => cmp_p r7 ra (by decide) ?_
        have e5 := down_halves (u := uval x.Fail x.Repair) (f := f) (m := m)
        have eone : ((1 : Int) : Rat) = 1 := rfl
        rw [hm, e5, eone]
        rw [sgnR_eq.2 (sub_eq_zero.2 rfl)]
        exact h
    · rw [if_neg hc]
      refine condB (fun _ => h) (fun hh => absurd ?_ hc)
      rw [isSome_errO] at hh
      exact Classical.not_not.1 (of_decide_eq_false hh)
end Go.Gg
