/- The law PhasesSums, over the formula. Conditions: the arguments' words are words. -/
import Derived.Test.YtonbnfgknijpoaaM46b
import Derived.Test.YtonbnfgknijpoaaWLPhasesSums
namespace Go.Gg
/-- All histories, the last event counting fastest. -/
def hsL (K : Nat) : Nat → List (List Int)
  | 0 => [[]]
  | i + 1 => (hsL K i).flatMap fun h => (List.range (K + 1)).map fun j => h ++ [((j : Nat) : Int)]
theorem hsL_len {K : Nat} : ∀ i, (hsL K i).length = (K + 1) ^ i
  | 0 => rfl
  | i + 1 => by
    rw [hsL, List.length_flatMap]
    simp only [List.length_map, List.length_range, List.map_const', List.sum_replicate_nat]
    rw [hsL_len i, Nat.pow_succ]
theorem hsL_mem {K : Nat} : ∀ i, ∀ h ∈ hsL K i, h.length = i ∧ ∀ a : Nat, a < i → 0 ≤ at' h (a : Int) ∧ at' h (a : Int) ≤ (K : Int)
  | 0, h, hm => by
    rw [hsL, List.mem_singleton] at hm
    subst hm
    exact ⟨rfl, fun a ha => absurd ha (by omega)⟩
  | i + 1, h, hm => by
    rw [hsL, List.mem_flatMap] at hm
    obtain ⟨h0, hm0, hm1⟩ := hm
    obtain ⟨j, hj, rfl⟩ := List.mem_map.1 hm1
    have hj := List.mem_range.1 hj
    obtain ⟨hl, ha⟩ := hsL_mem i h0 hm0
    refine ⟨by simp [hl], fun a hai => ?_⟩
    rcases Nat.lt_or_ge a i with h1 | h1
    · rw [at_app_left (by omega) (by omega)]; exact ha a h1
    · obtain rfl : a = i := by omega
      rw [← hl, at_app_mid]; omega
/-- The factor of an event in a weight. -/
def gq (m : GMission) (i : Nat) : Nat → Rat
  | 0 => 1
  | k + 1 => gq m i k * (1 - pq m i k)
def tq (m : GMission) (i j : Nat) : Rat := if j < m.Phases.length then gq m i j * pq m i j else gq m i j
theorem tq_sum {m : GMission} {i : Nat} : ∀ t, t ≤ m.Phases.length → ((List.range t).map (tq m i)).sum = 1 - gq m i t
  | 0, _ => by simp [gq]; grind
  | t + 1, ht => by
    rw [List.range_succ, List.map_append, List.sum_append, tq_sum t (by omega)]
    simp only [List.map_cons, List.map_nil, List.sum_cons, List.sum_nil]
    rw [tq, if_pos (by omega), gq]
    grind
theorem tq_one {m : GMission} {i : Nat} : ((List.range (m.Phases.length + 1)).map (tq m i)).sum = 1 := by
  rw [List.range_succ, List.map_append, List.sum_append, tq_sum _ (Nat.le_refl _)]
  simp only [List.map_cons, List.map_nil, List.sum_cons, List.sum_nil]
  rw [tq, if_neg (by omega)]
  grind
theorem wI_eq {m : GMission} {l : List Int} {q : Rat} {i a : Nat} (ha : at' l (i : Int) = (a : Int)) : ∀ k, k ≤ a → wI m l q i k = q * gq m i k
  | 0, _ => by rw [wI, gq]; grind
  | k + 1, hk => by
    rw [wI, gq, wI_eq ha k (by omega), fq, if_pos (by omega)]
    grind
theorem wI_t {m : GMission} {l : List Int} {q : Rat} {i a : Nat} (ha : at' l (i : Int) = (a : Int)) (hK : a ≤ m.Phases.length) : wI m l q i (cW m l i) = q * tq m i a := by
  unfold cW tq
  rw [ha, Int.toNat_natCast]
  split
  · rename_i h
    rw [show min (a + 1) m.Phases.length = a + 1 by omega, wI, wI_eq ha a (Nat.le_refl _), fq, if_neg (by omega)]
    grind
  · rw [show min (a + 1) m.Phases.length = a by omega, wI_eq ha a (Nat.le_refl _)]
theorem wM_congr {m : GMission} {l l' : List Int} : ∀ i, (∀ a : Nat, a < i → at' l (a : Int) = at' l' (a : Int)) → wM m l i = wM m l' i
  | 0, _ => rfl
  | i + 1, h => by
    have h1 := h i (by omega)
    have hI : ∀ q k, wI m l q i k = wI m l' q i k := fun q k => by
      induction k with
      | zero => rfl
      | succ k ih => rw [wI, wI, ih, fq, fq, h1]
    rw [wM, wM, wM_congr i (fun a ha => h a (by omega)), hI, cW, cW, h1]
theorem wM_snoc {m : GMission} {h : List Int} {i j : Nat} (hl : h.length = i) (hj : j ≤ m.Phases.length) : wM m (h ++ [((j : Nat) : Int)]) (i + 1) = wM m h i * tq m i j := by
  rw [wM, wI_t (a := j) (by rw [← hl, at_app_mid]) hj]
  congr 1
  exact wM_congr i fun a ha => at_app_left (by omega) (by omega)
theorem sum_flat {α : Type} {f : α → Rat} {g : α → List α} {c : α → Rat} : ∀ l : List α, (∀ x ∈ l, ((g x).map f).sum = c x) → ((l.flatMap g).map f).sum = (l.map c).sum
  | [], _ => by simp
  | x :: l, h => by
    rw [List.flatMap_cons, List.map_append, List.sum_append, h x (by simp), sum_flat l fun y hy => h y (by simp [hy])]
    simp
theorem sum_mul {α : Type} {f : α → Rat} {q : Rat} : ∀ l : List α, (l.map fun x => q * f x).sum = q * (l.map f).sum
  | [] => by simp
  | x :: l => by
    simp only [List.map_cons, List.sum_cons]
    rw [sum_mul l]; grind
theorem w_sum {m : GMission} : ∀ i, ((hsL m.Phases.length i).map fun h => wM m h i).sum = 1
  | 0 => by
    show (1 : Rat) + 0 = 1
    exact Rat.add_zero 1
  | i + 1 => by
    rw [hsL, sum_flat (c := fun h => wM m h i) _ fun h hm => ?_]
    · exact w_sum i
    · have hl := (hsL_mem i h hm).1
      rw [List.map_map]
      have : (List.range (m.Phases.length + 1)).map ((fun h => wM m h (i + 1)) ∘ fun j => h ++ [((j : Nat) : Int)]) = (List.range (m.Phases.length + 1)).map fun j => wM m h i * tq m i j :=
        List.map_congr_left fun j hj => wM_snoc hl (by have := List.mem_range.1 hj; omega)
      rw [this, sum_mul, tq_one]
      grind
theorem wM_nonneg {m : GMission} (o : OkM m) {l : List Int} : ∀ i, i ≤ m.P.length → 0 ≤ wM m l i
  | 0, _ => by rw [wM]; decide
  | i + 1, hi => by
    have h1 := wM_nonneg o (l := l) i (by omega)
    have hI : ∀ k, k ≤ m.Phases.length → 0 ≤ wI m l (wM m l i) i k := fun k => by
      induction k with
      | zero => intro _; exact h1
      | succ k ih =>
        intro hk
        have hp := o.prob i (by omega) k (by omega)
        unfold probB at hp
        simp only [Bool.and_eq_true, decide_eq_true_eq] at hp
        rw [wI]
        refine Rat.mul_nonneg (ih (by omega)) ?_
        unfold fq pq
        split
        · have := hp.2.2
          grind
        · exact hp.2.1
    rw [wM]
    exact hI _ (by unfold cW; omega)
theorem atmem {α : Type} [Inhabited α] {l : List α} {i : Nat} (hi : i < l.length) : at' l (i : Int) ∈ l := by
  have e : at' l (i : Int) = l[i] := by simp [at', List.getD_eq_getElem?_getD, List.getElem?_eq_getElem hi]
  rw [e]; exact List.getElem_mem hi
theorem pow_bound {K : Nat} : ∀ i, (K + 1) ^ i ≤ 2 ^ (K * i)
  | 0 => by simp
  | i + 1 => by
    rw [Nat.pow_succ, show K * (i + 1) = K * i + K from Nat.mul_succ K i, Nat.pow_add 2]
    exact Nat.mul_le_mul (pow_bound i) (Nat.lt_two_pow_self)
theorem pow_grow {K i n : Nat} (h : i ≤ n) : (K + 1) ^ i ≤ (K + 1) ^ n := Nat.pow_le_pow_right (by omega) h
theorem Histories_s {K n : Nat} {Q : List (List Int) → Prop} (hK : K ≤ 6) (hn : n ≤ 24) (hb : (K + 1) ^ n ≤ 300) (h : Q (hsL K n)) : ref46_Histories_W (n : Int) (K : Int) Q := by
  have len_i : ∀ i, i ≤ n → (hsL K i).length ≤ 300 := fun i hi => by rw [hsL_len]; exact Nat.le_trans (pow_grow hi) hb
  refine loopUp (n := n) (fun i => (hsL K i, (i : Int))) (fun y => y.2) 0 (fun i => by simp) rfl ?_ ?_
  · intro i next1 hi hn1
    have l1 := len_i i (by omega)
    have l2 := len_i (i + 1) (by omega)
    refine condT (fun _ => ?_) (fun hc => absurd (show (i : Int) < (n : Int) by omega) hc)
    refine loopUp (n := (hsL K i).length) (fun k => ((k : Int), ((hsL K i).take k).flatMap fun h => (List.range (K + 1)).map fun j => h ++ [((j : Nat) : Int)])) (fun y => y.1) 0 (fun k => by simp) (by simp) ?_ ?_
    · intro k next3 hk hn3
      refine condT (fun _ => ?_) (fun hc => absurd (show (k : Int) < ((hsL K i).length : Int) by omega) hc)
      have hm := hsL_mem i _ (atmem hk)
      refine loopUp (n := K + 1) (fun j => ((j : Int), (((hsL K i).take k).flatMap fun h => (List.range (K + 1)).map fun j => h ++ [((j : Nat) : Int)]) ++ (List.range j).map fun j => at' (hsL K i) (k : Int) ++ [((j : Nat) : Int)])) (fun y => y.1) 0 (fun k => by simp) (by simp) ?_ ?_
      · intro j next5 hj hn5
        have hlen : ((((hsL K i).take k).flatMap fun h => (List.range (K + 1)).map fun j => h ++ [((j : Nat) : Int)]) ++ (List.range j).map fun j => at' (hsL K i) (k : Int) ++ [((j : Nat) : Int)]).length ≤ 100000 := by
          rw [List.length_append, List.length_map, List.length_range, List.length_flatMap]
          simp only [List.length_map, List.length_range, List.map_const', List.sum_replicate_nat, List.length_take]
          have : min k (hsL K i).length * (K + 1) ≤ 300 * 7 := Nat.mul_le_mul (by omega) (by omega)
          omega
        refine condT (fun _ => ⟨⟨by omega, by omega⟩, by rw [hm.1]; omega, by rw [List.length_append, hm.1]; simp; omega, ?_, by unfold rng; omega, ?_⟩) (fun hc => absurd (show (j : Int) ≤ (K : Int) by omega) hc)
        · rw [List.length_append]; simp only [List.length_singleton]; omega
        · rw [← range_snoc, ← List.append_assoc] at hn5
          exact hn5
      · intro next5
        refine condT (fun hc => absurd hc (by omega)) (fun _ => ⟨by unfold rng; omega, ?_⟩)
        rw [← take_snoc hk, List.flatMap_append] at hn3
        simpa using hn3
    · intro next3
      refine condT (fun hc => absurd hc (by omega)) (fun _ => ⟨by unfold rng; omega, ?_⟩)
      rw [List.take_length]
      exact hn1
  · intro next1
    exact condT (fun hc => absurd hc (by omega)) (fun _ => h)
theorem wM_RB {m : GMission} (o : OkM m) {l : List Int} : ∀ i, i ≤ m.P.length → RB (64 + i * 2000) (wM m l i)
  | 0, _ => RB_of_int (n := 1) (by unfold rng; omega)
  | i + 1, hi => by
    have h1 := wM_RB o (l := l) i (by omega)
    have hI : ∀ k, k ≤ m.Phases.length → RB (64 + i * 2000 + k * 200) (wI m l (wM m l i) i k) := fun k => by
      induction k with
      | zero => intro _; exact h1
      | succ k ih =>
        intro hk
        have hp := (o.pRp (i := i) (j := k) (by omega) (by omega)).2.2
        rw [wI]
        refine (RB_mul (ih (by omega)) (l := 195) ?_).mono (by omega)
        unfold fq
        split
        · exact (RB_sub (RB_of_int (n := 1) (by unfold rng; omega)) hp).mono (by omega)
        · exact hp.mono (by omega)
    have hk6 := o.k6
    have hc : cW m l i ≤ m.Phases.length := by unfold cW; omega
    rw [wM]
    exact (hI _ hc).mono (by omega)
theorem law46_PhasesSums_s {m : GMission} {Q : Bool → Prop} (w : WrM m) (h : Q true) : law46_PhasesSums_W m Q := by
  refine ⟨fun y => y = false → FrM m ∧ misE m = 0, ?_, ?_⟩
  · refine law46_awake_s (condB (fun hh => by cases hh) fun _ => ?_)
    exact law46_large_s w fun b hb => condB (fun _ hh => by cases hh) fun e => ref46_Check_s w (hb e) fun hh => ⟨hb e, by simpa using hh⟩
  · intro y hy
    refine condB (fun _ => law46_awake_s h) fun hf => ?_
    obtain ⟨f, hm⟩ := hy hf
    have o := okM w f hm
    have hp := o.p24
    have hk6 := o.k6
    have hn24 := o.n24
    refine loopUp (n := m.P.length) (fun i => ((((m.Phases.length + 1) ^ i : Nat) : Int), (i : Int))) (fun y => y.2) 0 (fun i => by simp) (by simp) ?_ ?_
    · intro i next hi hn
      refine ref46_Events_s o.k0 ?_
      rw [← o.ev]
      refine condT (fun _ => ?_) (fun hc => absurd (show (i : Int) < (m.P.length : Int) by omega) hc)
      have e : (((m.Phases.length + 1) ^ i : Nat) : Int) * ((m.Phases.length : Int) + 1) = (((m.Phases.length + 1) ^ (i + 1) : Nat) : Int) := by rw [Nat.pow_succ]; simp
      have hb : (m.Phases.length + 1) ^ (i + 1) ≤ 16777216 := by
        refine Nat.le_trans (pow_bound (i + 1)) (pow24 ?_)
        have := Nat.mul_le_mul_left m.Phases.length hi
        rw [Nat.mul_comm m.Phases.length m.P.length] at this
        exact Nat.le_trans this hn24
      rw [e]
      exact ⟨by unfold rng; omega, by generalize (m.Phases.length + 1) ^ (i + 1) = z at hb ⊢; unfold rng; omega, by unfold rng; omega, hn⟩
    · intro next
      refine ref46_Events_s o.k0 ?_
      rw [← o.ev]
      refine condT (fun hc => absurd hc (by omega)) (fun _ => condT (fun _ => h) (fun h300 => ?_))
      have hb : (m.Phases.length + 1) ^ m.P.length ≤ 300 := by omega
      refine ref46_Events_d o.k0 ?_
      rw [← o.ev]
      refine ⟨_, Histories_s o.k6 hp hb rfl, ?_⟩
      have hlen : (hsL m.Phases.length m.P.length).length ≤ 300 := by rw [hsL_len]; exact hb
      refine loopInv (n := (hsL m.Phases.length m.P.length).length) (fun i y => y = ((i : Int), ratOf (((hsL m.Phases.length m.P.length).take i).map fun l => wM m l m.P.length).sum) ∧ Rp (64 + i * 100001) (ratOf (((hsL m.Phases.length m.P.length).take i).map fun l => wM m l m.P.length).sum) (((hsL m.Phases.length m.P.length).take i).map fun l => wM m l m.P.length).sum) (fun y => y.1) 0 (fun i y h => by rw [h.1]; simp) ⟨by simp [ratOf], by simpa [ratOf] using Rp.zero (k := 64) (by decide) (by decide)⟩ ?_ ?_
      · rintro i _ next2 hi ⟨rfl, hR⟩ hn2
        have hme := hsL_mem m.P.length _ (atmem hi)
        have hh : OkH m (at' (hsL m.Phases.length m.P.length) (i : Int)) := ⟨hme.1, fun a ha => hme.2 a (by omega)⟩
        have he := okH_E hm hh
        refine condT (fun _ => ⟨⟨by omega, by omega⟩, _, _, phases_Weight_s w f (by omega) (fun hne => absurd he hne) (fun _ hr => ⟨rfl, rfl⟩), condB (fun hh => by cases hh) fun _ => ?_⟩) (fun hc => absurd (show (i : Int) < ((hsL m.Phases.length m.P.length).length : Int) by omega) hc)
        have hp2 := (wM_RB o (l := at' (hsL m.Phases.length m.P.length) (i : Int)) m.P.length (Nat.le_refl _)).mono (l := 100000) (by omega)
        have hr : Rp 100000 (ratOf (wM m (at' (hsL m.Phases.length m.P.length) (i : Int)) m.P.length)) (wM m (at' (hsL m.Phases.length m.P.length) (i : Int)) m.P.length) := .of hp2 (by decide)
        have h0 := wM_nonneg o (l := at' (hsL m.Phases.length m.P.length) (i : Int)) m.P.length (Nat.le_refl _)
        rw [hme.1]
        refine sign_q hr (condT (fun hneg => absurd (sgnR_nonneg.2 h0) (by omega)) fun _ => add_q hR hr (by simp only [cap]; omega) fun hr2 => ⟨by unfold rng; omega, hn2 _ ⟨?_, ?_⟩⟩)
        · rw [← take_snoc hi, List.map_append, List.sum_append]
          simp only [List.map_cons, List.map_nil, List.sum_cons, List.sum_nil, Rat.add_zero]
          rfl
        · rw [← take_snoc hi, List.map_append, List.sum_append]
          simp only [List.map_cons, List.map_nil, List.sum_cons, List.sum_nil, Rat.add_zero]
          exact hr2.mono (by omega)
      · rintro _ next2 ⟨rfl, hR⟩
        refine condT (fun hc => absurd hc (by omega)) (fun _ => of_qd (by unfold rng; omega) fun r1 => cmp_qd hR r1 (by simp only [cap]; omega) ?_)
        rw [List.take_length, w_sum, one_cast]
        have : sgnR (1 - 1) = 0 := by decide +kernel
        rw [this]
        exact h
end Go.Gg
