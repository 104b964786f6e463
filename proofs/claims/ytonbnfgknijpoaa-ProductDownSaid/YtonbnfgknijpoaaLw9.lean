/- The law ProductBalanced, over the formula. Conditions: the arguments' words are words. -/
import Derived.Test.YtonbnfgknijpoaaM50f
import Derived.Test.YtonbnfgknijpoaaWLProductBalanced
namespace Go.Gg

theorem pr_nonneg {u : Nat → Rat} : ∀ n, (∀ i, i < n → 0 ≤ u i ∧ u i ≤ 1) → ∀ x, 0 ≤ pr u n x
  | 0, _, _ => by rw [pr]; decide +kernel
  | n + 1, h, x => by
    rw [pr]
    refine Rat.mul_nonneg (pr_nonneg n (fun i hi => h i (by omega)) x) ?_
    have hn := h n (by omega)
    split
    · exact (Rat.le_iff_sub_nonneg _ _).1 hn.2
    · exact hn.1
theorem uval_in {f r : List GRat} {i : Nat} (hf : rateB (at' f (i : Int)) = true) (hr : rateB (at' r (i : Int)) = true) (hne : valR (at' f (i : Int)) + valR (at' r (i : Int)) ≠ 0) : 0 ≤ uval f r i ∧ uval f r i ≤ 1 := by
  have h1 := rateB_nonneg hf
  have h2 := rateB_nonneg hr
  have e : uval f r i * (valR (at' f (i : Int)) + valR (at' r (i : Int))) = valR (at' f (i : Int)) := Rat.div_mul_cancel hne
  have hpos : 0 < valR (at' f (i : Int)) + valR (at' r (i : Int)) := by
    rcases Rat.le_iff_lt_or_eq.1 (Rat.add_nonneg h1 h2) with h | h
    · exact h
    · exact absurd h.symm hne
  have hinv := Rat.le_of_lt (Rat.inv_pos.2 hpos)
  constructor
  · show 0 ≤ valR (at' f (i : Int)) / _
    rw [Rat.div_def]; exact Rat.mul_nonneg h1 hinv
  · show valR (at' f (i : Int)) / (valR (at' f (i : Int)) + valR (at' r (i : Int))) ≤ 1
    have h3 : valR (at' f (i : Int)) ≤ valR (at' f (i : Int)) + valR (at' r (i : Int)) := by grind
    have h4 := Rat.mul_le_mul_of_nonneg_right h3 hinv
    rw [Rat.mul_inv_cancel _ hne] at h4
    rw [Rat.div_def]; exact h4
theorem set_map {α : Type} [Inhabited α] {g : Nat → α} {N a : Nat} {x : α} (h : a < N) : set' ((List.range N).map g) (a : Int) x = (List.range N).map (fun t => if t = a then x else g t) := by
  refine eq_by (by simp [set']) fun j hj => ?_
  have hj' : j < N := by simpa [set'] using hj
  rw [at_set (by simpa using h), at_map hj', at_map hj']
theorem ct_RB {f r : List GRat} {n t B : Nat} {m : GMove} (hB : 1 ≤ B) (h : RB B (wt f r n m)) : RB (B + B + 1) (ct f r n t m) := by
  unfold ct
  refine RB_sub ?_ ?_
  · split
    · exact h
    · exact RB_zero _ hB
  · split
    · exact h
    · exact RB_zero _ hB
theorem net_RB {f r : List GRat} {n t B : Nat} {l : List GMove} (hB : 1 ≤ B) (h : ∀ j : Nat, j < l.length → RB B (wt f r n (at' l (j : Int)))) : ∀ j, j ≤ l.length → RB (j * (B + B + 2) + 1) (lsum (ct f r n t) (l.take j))
  | 0, _ => RB_zero _ (by omega)
  | j + 1, hj => by
    rw [lsum_take (by omega)]
    exact (RB_add (net_RB hB h j (by omega)) (ct_RB hB (h j (by omega)))).mono (by rw [Nat.add_mul]; omega)
theorem chk0 {n : Nat} (h0 : 0 < n) (h8 : n ≤ 8) : chkM (⟨(n : Int), [], 0⟩ : GFormula) = 0 := by
  unfold chkM
  rw [if_neg (by dsimp only; omega), if_neg (by simp), if_neg (fun hh => hh rfl), if_neg]
  unfold validB
  simp
  omega
theorem bnd1 {j : Nat} (h : j ≤ 256) : j * (1585 + 1) + 1 ≤ 406017 := by omega
theorem bnd2 {j : Nat} (h : j ≤ 4096) : j * (1650 + 1650 + 2) + 1 ≤ 13524993 := by omega
set_option maxHeartbeats 1000000 in
theorem law50_ProductBalanced_s {x : GRates} {Q : Bool → Prop} (l1 : x.Fail.length ≤ 9223372036854775807) (l2 : x.Repair.length ≤ 9223372036854775807) (w1 : WrL x.Fail) (w2 : WrL x.Repair) (h : Q true) : law50_ProductBalanced_W x Q := by
  refine ⟨fun y => y = false → Frs 65 x.Fail ∧ Frs 65 x.Repair, ?_, ?_⟩
  · refine law50_awake_s (condB (fun hh => (by cases hh)) fun _ => ?_)
    refine law50_short_s l1 fun r1 h1 => condB (fun _ hh => (by cases hh)) fun e1 => ?_
    refine law50_short_s l2 fun r2 h2 e2 => ?_
    have h1 := (h1 (by simpa using e1)).2
    have h2 := (h2 (by simpa using e2)).2
    exact ⟨fun i hi => Two_Fr (w1 i hi) (h1 i hi), fun i hi => Two_Fr (w2 i hi) (h2 i hi)⟩
  · intro y hy
    refine condB (fun _ => law50_awake_s h) fun hf => ?_
    obtain ⟨f1, f2⟩ := hy hf
    refine product_Stationary_s (k := 65) (by omega) (by omega) f1 f2 ?_
    unfold statM
    by_cases hc : listsE x.Fail x.Repair = 0
    · rw [if_pos hc]
      obtain ⟨hl, h0, h8, hall⟩ := lists_zero hc
      refine condB (fun hh => by cases hh) (fun _ => product_Chain_s (k := 65) (by omega) f1 f2 (show rng 0 by unfold rng; omega) ?_)
      unfold chainM
      rw [if_neg (fun hh => hh hc), if_neg (fun hh => hh (chk0 h0 h8)), if_neg (fun hh => hh rfl)]
      refine condB (fun hh => by cases hh) (fun _ => ?_)
      dsimp only
      have hp := pow_le_256 h8
      have hml := mvs_small (f := x.Fail) (r := x.Repair) h8 hp
      have hmv := chainM_moves (φ := ⟨(x.Fail.length : Int), [], 0⟩) f1 f2 hl (fun i hi => (hall i hi).1) (Nat.le_refl (2 ^ x.Fail.length))
      have hu := fun i (hi : i < x.Fail.length) => uval_in (hall i hi).1.1 (hall i hi).1.2 (hall i hi).2
      have hB : x.Fail.length * (3 * 65 + 3) + 1 ≤ 1585 := by
        have := Nat.mul_le_mul_right (3 * 65 + 3) h8
        omega
      have hprb := fun s => (pr_RB (u := uval x.Fail x.Repair) (c := 3 * 65 + 3) (n := x.Fail.length) (by omega) (fun j hj => uval_RB (by omega) f1 f2 hl hj) s).mono hB
      have hz : ∀ s, s < 2 ^ x.Fail.length → ∀ i, i < x.Fail.length → good x.Fail x.Repair s i = false → valR (rateAt x.Fail x.Repair s i) = 0 := fun s _ i hi hg => by
        have h3 : ¬ 0 < sgnR (valR (rateAt x.Fail x.Repair s i)) := of_decide_eq_false hg
        have h4 : valR (rateAt x.Fail x.Repair s i) ≤ 0 := sgnR_nonpos.1 (by omega)
        have h5 : 0 ≤ valR (rateAt x.Fail x.Repair s i) := by
          unfold rateAt
          split
          · exact rateB_nonneg (hall i hi).1.2
          · exact rateB_nonneg (hall i hi).1.1
        exact Rat.le_antisymm h4 h5
      have hnet := fun {t : Nat} (ht : t < 2 ^ x.Fail.length) => net_zero (f := x.Fail) (r := x.Repair) h8 ht (fun i hi => (hall i hi).2) hz
      have hat := fun {s : Nat} (hs : s < 2 ^ x.Fail.length) => Lst_at (u := uval x.Fail x.Repair) hs
      have hone := total_one (u := uval x.Fail x.Repair) x.Fail.length
      have hpos := fun s => pr_nonneg x.Fail.length hu s
      have hsrb : ∀ j, j ≤ 2 ^ x.Fail.length → RB 406017 (sumTo (pr (uval x.Fail x.Repair) x.Fail.length) j) := fun j hj => (sumTo_RB (B := 1585) j (fun i _ => hprb i)).mono (bnd1 (Nat.le_trans hj hp))
      have hlen : (Lst (uval x.Fail x.Repair) x.Fail.length).length = 2 ^ x.Fail.length := Lst_len
      have hwrb : ∀ j : Nat, j < (mvs x.Fail x.Repair x.Fail.length (2 ^ x.Fail.length)).length → RB 1650 (wt x.Fail x.Repair x.Fail.length (at' (mvs x.Fail x.Repair x.Fail.length (2 ^ x.Fail.length)) (j : Int))) := fun j hj => by
        obtain ⟨s, i, _, hi, h3, _⟩ := mvs_mem _ _ (at_mem' hj)
        rw [h3]
        refine (RB_mul (l := 65) (hprb _) ?_).mono (by omega)
        show RB 65 (valR (rateAt x.Fail x.Repair s i))
        unfold rateAt
        split
        · exact (f2 i (by omega)).2
        · exact (f1 i hi).2
      have hnrb := fun (t j : Nat) (hj : j ≤ (mvs x.Fail x.Repair x.Fail.length (2 ^ x.Fail.length)).length) => (net_RB (t := t) (by omega) hwrb j hj).mono (bnd2 (Nat.le_trans hj hml))
      generalize Lst (uval x.Fail x.Repair) x.Fail.length = L at *
      generalize hM : mvs x.Fail x.Repair x.Fail.length (2 ^ x.Fail.length) = M at *
      have hMl : M.take M.length = M := List.take_length
      generalize hN : 2 ^ x.Fail.length = N at *
      refine condN (fun hne => absurd (show (L.length : Int) = (N : Int) by omega) hne) (fun _ => ⟨⟨by omega, by omega, by omega, by omega⟩, ?_⟩)
      refine loopUp (n := N) (fun j => ((j : Int), ratOf (sumTo (pr (uval x.Fail x.Repair) x.Fail.length) j))) (fun y => y.1) 0 (fun j => by dsimp only; omega) rfl ?_ ?_
      · intro j next hj hn
        refine condT (fun hc3 => ⟨⟨by omega, by omega⟩, ?_⟩) (fun hc3 => absurd (show (j : Int) < (L.length : Int) by omega) hc3)
        rw [hat hj]
        have rj := Rp.of (hprb j) (show 1585 ≤ cap by decide)
        refine sign_p rj (condT (fun hh => absurd (hpos j) (Rat.not_le.2 (sgnR_neg.1 hh))) (fun _ => add_p (.of (hsrb j (by omega)) (by decide)) rj (by decide) fun _ => ⟨by unfold rng; omega, hn⟩))
      · intro next
        refine condT (fun hc3 => absurd hc3 (by omega)) (fun _ => ?_)
        refine loopUp (n := M.length) (fun j => ((j : Int), (List.range N).map fun t => ratOf (lsum (ct x.Fail x.Repair x.Fail.length t) (M.take j)))) (fun y => y.1) 0 (fun j => by dsimp only; omega) ?_ ?_ ?_
        · refine congrArg (fun l => ((0 : Int), l)) (eq_by (by simp [rep']; omega) fun i hi => ?_)
          have hi' : i < N := by simp [rep'] at hi; omega
          rw [at_map hi']
          have : i < L.length := by omega
          simp [at', rep', List.getD_eq_getElem?_getD, this]
          rfl
        · intro j next2 hj hn2
          obtain ⟨⟨f0, f3⟩, ⟨t0, t3⟩, hne, hfr, hok, hsg⟩ := hmv j hj
          have hw := hwrb j hj
          generalize hm : at' M (j : Int) = m at *
          obtain ⟨a, ha⟩ := Int.eq_ofNat_of_zero_le f0
          obtain ⟨b, hb⟩ := Int.eq_ofNat_of_zero_le t0
          have haN : a < N := by omega
          have hbN : b < N := by omega
          have hab : a ≠ b := fun e => hne (by rw [ha, hb, e])
          have hwt : wt x.Fail x.Repair x.Fail.length m = pr (uval x.Fail x.Repair) x.Fail.length a * valR m.Rate := by unfold wt; rw [ha, Int.toNat_natCast]
          have hrb : RB 65 (valR m.Rate) := by
            obtain ⟨s, i, _, hi, h3, _⟩ := mvs_mem _ _ (hM ▸ hm ▸ at_mem' hj : m ∈ mvs x.Fail x.Repair x.Fail.length N)
            rw [h3]
            show RB 65 (valR (rateAt x.Fail x.Repair s i))
            unfold rateAt
            split
            · exact (f2 i (by omega)).2
            · exact (f1 i hi).2
          refine condT (fun hc3 => ⟨⟨by omega, by omega⟩, ?_⟩) (fun hc3 => absurd (show (j : Int) < (M.length : Int) by omega) hc3)
          dsimp only
          have hnl : ∀ (g : Nat → GRat), ((List.range N).map g).length = N := fun g => by simp
          refine condT (fun hh => absurd hh (by omega)) (fun _ => condT (fun hh => absurd hh (by omega)) (fun _ => condT (fun hh => absurd hh (by omega)) (fun _ => condT (fun hh => absurd hh (by omega)) (fun _ => ⟨⟨by omega, by omega⟩, ?_⟩))))
          rw [ha, hb, hat haN]
          refine mul_pd (.of (hprb a) (by decide)) (.self hfr hrb) (by decide) fun rw1 => ⟨⟨by omega, by rw [hnl]; omega⟩, ?_⟩
          rw [at_map haN, at_map hbN]
          refine sub_pd (.of (hnrb a j (by omega)) (by decide)) rw1 (by decide) fun _ => ⟨⟨by omega, by rw [hnl]; omega⟩, add_pd (.of (hnrb b j (by omega)) (by decide)) rw1 (by decide) fun _ => ⟨⟨by omega, by rw [hnl]; omega⟩, ⟨by omega, by rw [hnl]; omega⟩, by unfold rng; omega, ?_⟩⟩
          rw [set_map haN, set_map hbN]
          have e : ((List.range N).map fun t => if t = b then ratOf (lsum (ct x.Fail x.Repair x.Fail.length b) (M.take j) + pr (uval x.Fail x.Repair) x.Fail.length a * valR m.Rate) else if t = a then ratOf (lsum (ct x.Fail x.Repair x.Fail.length a) (M.take j) - pr (uval x.Fail x.Repair) x.Fail.length a * valR m.Rate) else ratOf (lsum (ct x.Fail x.Repair x.Fail.length t) (M.take j))) =
              (List.range N).map fun t => ratOf (lsum (ct x.Fail x.Repair x.Fail.length t) (M.take (j + 1))) := by
            refine List.map_congr_left fun t _ => ?_
            rw [lsum_take hj, hm, ← hwt]
            unfold ct
            rw [ha, hb]
            by_cases e1 : t = b
            · subst e1
              rw [if_pos rfl, if_pos rfl, if_neg (by omega)]
              congr 1
              grind
            · rw [if_neg e1]
              by_cases e2 : t = a
              · subst e2
                rw [if_pos rfl, if_neg (by omega), if_pos rfl]
                congr 1
                grind
              · rw [if_neg e2, if_neg (by omega), if_neg (by omega)]
                congr 1
                grind
          rw [e]
          exact hn2
        · intro next2
          refine condT (fun hc3 => absurd hc3 (by omega)) (fun _ => ?_)
          rw [hMl]
          have hnl : ((List.range N).map fun t => ratOf (lsum (ct x.Fail x.Repair x.Fail.length t) M)).length = N := by simp
          refine scanW (fun _ => False) (by rw [hnl]; omega) (fun t next3 ht _ hnx => ⟨⟨by omega, by omega⟩, ?_⟩) (fun _ => ?_)
          · rw [hnl] at ht
            rw [at_map ht, hnet ht]
            exact sign_p (.zero (k := 1) (by omega) (by decide)) (condN (fun hh => absurd (sgnR_eq.2 rfl) hh) (fun _ => hnx (fun hh => hh)))
          · refine of_pd (by unfold rng; omega) fun h1 => cmp_pd (.of (hsrb N (Nat.le_refl N)) (by decide)) h1 (by decide) ?_
            rw [hone]
            have e0 : sgnR (1 - ((1 : Int) : Rat)) = 0 := sgnR_eq.2 (sub_eq_zero.2 rfl)
            rw [e0]
            exact h
    · rw [if_neg hc]
      refine condB (fun _ => h) (fun hh => absurd ?_ hc)
      rw [isSome_errO] at hh
      exact Classical.not_not.1 (of_decide_eq_false hh)
end Go.Gg
