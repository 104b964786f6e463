/- Missions of phases: the unfolded formula is accepted. Conditions: none. -/
import Derived.Test.YtonbnfgknijpoaaM46b
namespace Go.Gg

/-- The error of a node whose arguments are below b. -/
def nodeB (b : Int) (x : GNode) : Int :=
  if x.Kind < 0 ∨ 5 < x.Kind then 7
  else if argsB x.Kind x.Args.length = false then 11
  else if ∃ j < x.Args.length, at' x.Args ((j : Nat) : Int) < 0 ∨ b ≤ at' x.Args ((j : Nat) : Int) then 10
  else if x.Kind = 0 then (if x.K ≠ 0 ∧ x.K ≠ 1 then 3 else 0)
  else if x.Kind = 4 then (if x.K < 1 ∨ (x.Args.length : Int) < x.K then 3 else 0)
  else if x.K ≠ 0 then 2 else 0
theorem nodeE_B {f : GFormula} {i : Nat} : nodeE f i = nodeB (f.Vars + i) (at' f.Nodes (i : Int)) := rfl
theorem nodeB_arg {b : Int} {x : GNode} (h : nodeB b x = 0) (j : Nat) (hj : j < x.Args.length) : 0 ≤ at' x.Args (j : Int) ∧ at' x.Args (j : Int) < b := by
  unfold nodeB at h
  split at h
  · cases h
  split at h
  · cases h
  split at h
  · cases h
  rename_i _ _ h3
  rw [not_exists] at h3
  have := h3 j
  simp only [hj, true_and, not_or] at this
  omega
theorem nodeB_map {b b' : Int} {x y : GNode} (h : nodeB b x = 0) (hk : y.Kind = x.Kind) (hK : y.K = x.K) (hl : y.Args.length = x.Args.length) (ha : ∀ j : Nat, j < y.Args.length → 0 ≤ at' y.Args (j : Int) ∧ at' y.Args (j : Int) < b') : nodeB b' y = 0 := by
  unfold nodeB at h ⊢
  rw [hk, hK, hl]
  split at h
  · cases h
  rename_i h1
  rw [if_neg h1]
  split at h
  · cases h
  rename_i h2
  rw [if_neg h2]
  split at h
  · cases h
  rw [if_neg]
  · exact h
  · rintro ⟨j, hj, hb⟩
    have := ha j (by omega)
    omega
theorem nodeB_or {b : Int} {l : List Int} (h1 : 1 ≤ l.length) (h16 : l.length ≤ 16) (ha : ∀ j : Nat, j < l.length → 0 ≤ at' l (j : Int) ∧ at' l (j : Int) < b) : nodeB b ⟨3, 0, l⟩ = 0 := by
  unfold nodeB
  dsimp only
  rw [if_neg (by omega), if_neg, if_neg, if_neg (by omega), if_neg (by omega), if_neg (by simp)]
  · rintro ⟨j, hj, hb⟩
    have := ha j hj
    omega
  · unfold argsB
    rw [if_neg (by omega), if_neg (by omega)]
    simp; omega
/-- What stands in the list stays in the longer one. -/
theorem allN_pre {m : GMission} {j : Nat} : ∀ J, j ≤ J → ∃ r, allN m J = allN m j ++ r
  | 0, h => by
    obtain rfl : j = 0 := by omega
    exact ⟨[], by simp⟩
  | J + 1, h => by
    rcases Nat.lt_or_ge J j with h1 | h1
    · obtain rfl : j = J + 1 := by omega
      exact ⟨[], by simp⟩
    · obtain ⟨r, hr⟩ := allN_pre (m := m) J h1
      exact ⟨r ++ phN m.P.length m.Phases.length J (((m.P.length * m.Phases.length + (allN m J).length : Nat)) : Int) (at' m.Phases (J : Int)).Nodes, by rw [allN, hr, List.append_assoc]⟩
theorem unfN_pre {m : GMission} {j : Nat} (hj : j ≤ m.Phases.length) : ∃ r, unfN m = allN m j ++ r := by
  obtain ⟨r, hr⟩ := allN_pre (m := m) m.Phases.length hj
  unfold unfN
  split
  · exact ⟨r ++ [⟨3, 0, topL m m.Phases.length⟩], by rw [hr, List.append_assoc]⟩
  · exact ⟨r, hr⟩
theorem at_app_right {α : Type} [Inhabited α] {l r : List α} {t : Nat} : at' (l ++ r) ((l.length + t : Nat) : Int) = at' r (t : Int) := by
  unfold at'
  rw [Int.toNat_natCast, Int.toNat_natCast, List.getD_eq_getElem?_getD, List.getD_eq_getElem?_getD, List.getElem?_append_right (by omega), show l.length + t - l.length = t by omega]
def AllB (b : Int) (l : List GNode) : Prop := ∀ t : Nat, t < l.length → nodeB (b + t) (at' l (t : Int)) = 0
theorem AllB_app {b : Int} {l r : List GNode} (h1 : AllB b l) (h2 : AllB (b + l.length) r) : AllB b (l ++ r) := fun t ht => by
  rcases Nat.lt_or_ge t l.length with h | h
  · rw [at_app_left (by omega) (by omega)]; exact h1 t h
  · obtain ⟨u, rfl⟩ : ∃ u, t = l.length + u := ⟨t - l.length, by omega⟩
    rw [at_app_right]
    have := h2 u (by rw [List.length_append] at ht; omega)
    rw [show b + ((l.length + u : Nat) : Int) = b + (l.length : Int) + (u : Int) by omega]
    exact this
theorem orsL_B {m : GMission} (o : OkM m) : ∀ i, i ≤ m.P.length → ∀ (b : Int), ((m.P.length * m.Phases.length : Nat) : Int) ≤ b → AllB b (orsL m.Phases.length i)
  | 0, _, b, _ => fun t ht => by simp [orsL] at ht
  | i + 1, hi, b, hb => by
    have hk6 := o.k6
    rw [orsL]
    refine AllB_app (orsL_B o i (by omega) b hb) fun t ht => ?_
    rw [orR_len] at ht
    unfold orR
    rw [at_map_range ht]
    refine nodeB_or (by rw [soL_len]; omega) (by rw [soL_len]; omega) fun j hj => ?_
    rw [soL_len] at hj
    unfold soL
    rw [at_map_range hj]
    have := idx_lt (i := i) (n := m.P.length) (K := m.Phases.length) (by omega)
    omega
theorem byv_lt {m : GMission} {i j : Nat} (hi : i < m.P.length) (hj : j < m.Phases.length) : 0 ≤ byv m.P.length m.Phases.length i j ∧ byv m.P.length m.Phases.length i j < ((m.P.length * m.Phases.length + m.P.length * (m.Phases.length - 1) : Nat) : Int) := by
  have h1 := idx_lt (i := i) (n := m.P.length) (K := m.Phases.length) hi
  have h2 := idx_lt (i := i) (n := m.P.length) (K := m.Phases.length - 1) hi
  unfold byv
  split
  · omega
  · omega
theorem allN_ge {m : GMission} (j : Nat) : m.P.length * (m.Phases.length - 1) ≤ (allN m j).length := by
  obtain ⟨r, hr⟩ := allN_pre (m := m) (j := 0) j (by omega)
  rw [hr, List.length_append, allN, orsL_len]; omega
theorem mv_lt {m : GMission} (o : OkM m) {j : Nat} (hj : j < m.Phases.length) {a : Int} {u : Nat} (h0 : 0 ≤ a) (h1 : a < evt m + u) : 0 ≤ mv m.P.length m.Phases.length j (fstN m j) a ∧ mv m.P.length m.Phases.length j (fstN m j) a < fstN m j + u := by
  have hg := allN_ge (m := m) j
  have he := o.ev
  unfold mv
  split
  · have := byv_lt (m := m) (i := a.toNat) (j := j) (by omega) hj
    unfold fstN
    omega
  · unfold fstN
    omega
theorem allN_B {m : GMission} (o : OkM m) : ∀ j, j ≤ m.Phases.length → AllB ((m.P.length * m.Phases.length : Nat) : Int) (allN m j)
  | 0, _ => orsL_B o _ (Nat.le_refl _) _ (Int.le_refl _)
  | j + 1, hj => by
    rw [allN]
    refine AllB_app (allN_B o j (by omega)) fun t ht => ?_
    unfold phN at ht ⊢
    rw [List.length_map] at ht
    rw [at_map ht]
    have g := (o.fg j (by omega)).1
    have hn := g.node t ht
    rw [nodeE_B, (o.fg j (by omega)).2] at hn
    refine nodeB_map hn rfl rfl (by simp) fun a ha => ?_
    simp only [List.length_map] at ha
    dsimp only
    rw [at_map ha]
    have h1 := nodeB_arg hn a ha
    have := mv_lt o (j := j) (by omega) h1.1 h1.2
    unfold fstN at this
    omega
theorem topL_at {m : GMission} {J j : Nat} : j < J → at' (topL m J) (j : Int) = mv m.P.length m.Phases.length j (fstN m j) (at' m.Phases (j : Int)).Top := by
  induction J with
  | zero => intro h; omega
  | succ J ih =>
    intro h
    rw [topL]
    rcases Nat.lt_or_ge j J with h1 | h1
    · rw [at_app_left (by omega) (by rw [topL_len]; omega)]; exact ih h1
    · obtain rfl : j = J := by omega
      have := at_app_mid (l := topL m j) (x := mv m.P.length m.Phases.length j (fstN m j) (at' m.Phases (j : Int)).Top)
      rw [topL_len] at this
      exact this
theorem topL_lt {m : GMission} (o : OkM m) {j : Nat} (hj : j < m.Phases.length) : 0 ≤ at' (topL m m.Phases.length) (j : Int) ∧ at' (topL m m.Phases.length) (j : Int) < fstN m m.Phases.length := by
  rw [topL_at hj]
  have g := (o.fg j hj).1
  have ht := g.top
  rw [(o.fg j hj).2] at ht
  have h1 := mv_lt o hj g.top0 ht
  obtain ⟨r, hr⟩ := allN_pre (m := m) (j := j + 1) m.Phases.length (by omega)
  have hl : (allN m m.Phases.length).length = (allN m j).length + (at' m.Phases (j : Int)).Nodes.length + r.length := by
    rw [hr, List.length_append, allN, List.length_append, phN, List.length_map]
  unfold fstN at h1 ⊢
  omega
theorem unf_FG {m : GMission} (o : OkM m) (h128 : (unfN m).length ≤ 128) : FG (unfF m) := by
  have hk6 := o.k6
  have hk0 := o.k0
  have hB := allN_B o m.Phases.length (Nat.le_refl _)
  refine ⟨by show (0 : Int) ≤ ((m.P.length * m.Phases.length : Nat) : Int); omega, by show ((m.P.length * m.Phases.length : Nat) : Int) ≤ 24; have := o.n24; omega, h128, fun i hi => ?_, ?_, ?_⟩
  · have : AllB ((m.P.length * m.Phases.length : Nat) : Int) (unfN m) := by
      unfold unfN
      split
      · refine AllB_app hB fun t ht => ?_
        obtain rfl : t = 0 := by simpa using ht
        refine nodeB_or (by rw [topL_len]; omega) (by rw [topL_len]; omega) fun j hj => ?_
        rw [topL_len] at hj
        have := topL_lt o hj
        unfold fstN at this
        omega
      · exact hB
    exact this i hi
  · show 0 ≤ unfT m
    unfold unfT
    split
    · unfold fstN; omega
    · exact (topL_lt o hk0).1
  · show unfT m < ((m.P.length * m.Phases.length : Nat) : Int) + ((unfN m).length : Int)
    unfold unfT unfN
    split
    · unfold fstN; rw [List.length_append]; simp; omega
    · have := (topL_lt o hk0).2
      unfold fstN at this
      have e : at' (topL m m.Phases.length) 0 = at' (topL m m.Phases.length) ((0 : Nat) : Int) := rfl
      rw [e]; omega
end Go.Gg
namespace Go.Gg
theorem val_node {f : GFormula} {s i : Nat} (g : FG f) (hi : i < f.Nodes.length) : at' (vals f s f.Nodes.length) (f.Vars + i) = nodeV (at' f.Nodes (i : Int)) (vals f s f.Nodes.length) := by
  have v0 := g.v0
  rw [vals_node v0 hi]
  unfold nodeV
  congr 1
  refine cnt_congr _ fun k hk => ?_
  have := nodeB_arg (g.node i hi) k hk
  exact (vals_pre (m := i) this.1 (by omega) f.Nodes.length (by omega)).symm
theorem cnt_pos {x : GNode} {v : List Bool} : ∀ n, 0 < cnt x v n ↔ ∃ j : Nat, j < n ∧ at' v (at' x.Args (j : Int)) = true
  | 0 => by simp [cnt]
  | n + 1 => by
    rw [cnt]
    constructor
    · intro h
      by_cases hv : at' v (at' x.Args (n : Int)) = true
      · exact ⟨n, by omega, hv⟩
      · rw [if_neg hv] at h
        obtain ⟨j, hj, hh⟩ := (cnt_pos n).1 (by omega)
        exact ⟨j, by omega, hh⟩
    · rintro ⟨j, hj, hh⟩
      rcases Nat.lt_or_ge j n with h1 | h1
      · have := (cnt_pos n).2 ⟨j, h1, hh⟩
        omega
      · obtain rfl : j = n := by omega
        rw [if_pos hh]; omega
theorem or_val {l : List Int} {v : List Bool} : nodeV ⟨3, 0, l⟩ v = decide (∃ j : Nat, j < l.length ∧ at' v (at' l (j : Int)) = true) := by
  have h := cnt_pos (x := ⟨3, 0, l⟩) (v := v) l.length
  unfold nodeV kindV
  dsimp only at h ⊢
  rw [if_neg (by omega), if_neg (by omega), if_neg (by omega), if_pos rfl]
  exact decide_eq_decide.2 (by rw [← h]; omega)
theorem orsL_at {K : Nat} {i j : Nat} (hj : j < K - 1) : ∀ n, i < n → at' (orsL K n) ((i * (K - 1) + j : Nat) : Int) = orN K i (j + 1)
  | 0, h => by omega
  | n + 1, h => by
    rw [orsL]
    rcases Nat.lt_or_ge i n with h1 | h1
    · have := idx_lt (i := i) (n := n) (K := K - 1) h1
      rw [at_app_left (by omega) (by rw [orsL_len]; omega)]
      exact orsL_at hj n h1
    · obtain rfl : i = n := by omega
      have := at_app_right (l := orsL K i) (r := orR K i K) (t := j)
      rw [orsL_len] at this
      rw [this]
      unfold orR
      rw [at_map_range hj]
section
variable {m : GMission} (o : OkM m) (h128 : (unfN m).length ≤ 128) (s : Nat)
/-- The value of an argument of the unfolded formula. -/
theorem unf_bit {a : Nat} (ha : a < m.P.length * m.Phases.length) : at' (vals (unfF m) s (unfN m).length) (a : Int) = inS s a := by
  have := vals_bit (f := unfF m) (s := s) (a := (a : Int)) (by omega) (by show (a : Int) < ((m.P.length * m.Phases.length : Nat) : Int); omega) (unfN m).length
  rw [Int.toNat_natCast] at this
  exact this
include o h128 in
theorem unf_node {t : Nat} (ht : t < (unfN m).length) : at' (vals (unfF m) s (unfN m).length) (((m.P.length * m.Phases.length + t : Nat)) : Int) = nodeV (at' (unfN m) (t : Int)) (vals (unfF m) s (unfN m).length) := by
  have := val_node (f := unfF m) (s := s) (i := t) (unf_FG o h128) ht
  have e : (((m.P.length * m.Phases.length + t : Nat)) : Int) = (unfF m).Vars + (t : Int) := by
    show _ = ((m.P.length * m.Phases.length : Nat) : Int) + (t : Int)
    omega
  rw [e]
  exact this
include o h128 in
theorem unf_by {i j : Nat} (hi : i < m.P.length) (hj : j < m.Phases.length) : at' (vals (unfF m) s (unfN m).length) (byv m.P.length m.Phases.length i j) = decide (∃ k, k ≤ j ∧ inS s (i * m.Phases.length + k) = true) := by
  have hx := idx_lt (i := i) (n := m.P.length) (K := m.Phases.length) hi
  unfold byv
  split
  · rename_i h0
    subst h0
    rw [unf_bit s (by omega)]
    rw [Bool.eq_iff_iff, decide_eq_true_eq]
    constructor
    · intro h; exact ⟨0, Nat.le_refl _, h⟩
    · rintro ⟨k, hk, h⟩
      obtain rfl : k = 0 := by omega
      exact h
  · rename_i h0
    obtain ⟨r, hr⟩ := unfN_pre (m := m) (j := 0) (by omega)
    have hy := idx_lt (i := i) (n := m.P.length) (K := m.Phases.length - 1) hi
    have hol : (orsL m.Phases.length m.P.length).length = m.P.length * (m.Phases.length - 1) := orsL_len _
    have hlt : i * (m.Phases.length - 1) + (j - 1) < (unfN m).length := by
      rw [hr, List.length_append, allN, hol]; omega
    have e : m.P.length * m.Phases.length + i * (m.Phases.length - 1) + (j - 1) = m.P.length * m.Phases.length + (i * (m.Phases.length - 1) + (j - 1)) := by omega
    rw [e, unf_node o h128 s hlt]
    have hat : at' (unfN m) ((i * (m.Phases.length - 1) + (j - 1) : Nat) : Int) = orN m.Phases.length i j := by
      rw [hr, allN, at_app_left (by omega) (by rw [hol]; omega), orsL_at (by omega) _ hi, show j - 1 + 1 = j by omega]
    rw [hat, orN, or_val, soL_len]
    refine decide_eq_decide.2 ⟨?_, ?_⟩
    · rintro ⟨k, hk, h⟩
      unfold soL at h
      rw [at_map_range hk, unf_bit s (by omega)] at h
      exact ⟨k, by omega, h⟩
    · rintro ⟨k, hk, h⟩
      refine ⟨k, by omega, ?_⟩
      unfold soL
      rw [at_map_range (by omega), unf_bit s (by omega)]
      exact h
end
/-- A history that fits a state of the unfolded events. -/
def Fits (m : GMission) (s : Nat) (l : List Int) : Prop := l.length = m.P.length ∧ ∀ i : Nat, i < m.P.length → ∀ j : Nat, j < m.Phases.length → (at' l (i : Int) ≤ (j : Int) ↔ ∃ k, k ≤ j ∧ inS s (i * m.Phases.length + k) = true)
theorem nodeV_congr {x y : GNode} {v v' : List Bool} (hk : y.Kind = x.Kind) (hK : y.K = x.K) (hl : y.Args.length = x.Args.length) (h : ∀ j : Nat, j < x.Args.length → at' v' (at' y.Args (j : Int)) = at' v (at' x.Args (j : Int))) : nodeV y v' = nodeV x v := by
  have hc : ∀ n, n ≤ x.Args.length → cnt y v' n = cnt x v n := fun n => by
    induction n with
    | zero => intro _; rfl
    | succ n ih => intro hn; rw [cnt, cnt, ih (by omega), h n (by omega)]
  unfold nodeV kindV
  rw [hk, hK, hl, hc _ (Nat.le_refl _)]
theorem unf_phase {m : GMission} (o : OkM m) (h128 : (unfN m).length ≤ 128) {s : Nat} {l : List Int} (hf : Fits m s l) {j : Nat} (hj : j < m.Phases.length) : ∀ a : Nat, (a : Int) < evt m + (at' m.Phases (j : Int)).Nodes.length →
    at' (vals (unfF m) s (unfN m).length) (mv m.P.length m.Phases.length j (fstN m j) (a : Int)) = at' (vals (at' m.Phases (j : Int)) (failM l (j : Int)) (at' m.Phases (j : Int)).Nodes.length) (a : Int) := by
  intro a
  have he := o.ev
  have g := (o.fg j hj).1
  have hv := (o.fg j hj).2
  induction a using Nat.strongRecOn with
  | _ a ih =>
    intro ha
    unfold mv
    split
    · rename_i h1
      rw [Int.toNat_natCast, unf_by o h128 s (by omega) hj, vals_bit (by omega) (by rw [hv]; omega), Int.toNat_natCast, inS_bit]
      unfold failM
      rw [bset_bit, decide_eq_true (show a < l.length by rw [hf.1]; omega), Bool.true_and, failP]
      exact decide_eq_decide.2 (hf.2 a (by omega) j hj).symm
    · rename_i h1
      obtain ⟨t, rfl⟩ : ∃ t, a = m.P.length + t := ⟨a - m.P.length, by omega⟩
      have ht : t < (at' m.Phases (j : Int)).Nodes.length := by omega
      obtain ⟨r, hr⟩ := unfN_pre (m := m) (j := j + 1) (by omega)
      have hlen : (allN m j).length + t < (unfN m).length := by
        rw [hr, List.length_append, allN, List.length_append, phN, List.length_map]; omega
      have e : fstN m j + ((m.P.length + t : Nat) : Int) - (m.P.length : Int) = ((m.P.length * m.Phases.length + ((allN m j).length + t) : Nat) : Int) := by unfold fstN; omega
      rw [e, unf_node o h128 s hlen]
      have e2 : ((m.P.length + t : Nat) : Int) = (at' m.Phases (j : Int)).Vars + (t : Int) := by rw [hv]; omega
      rw [e2, val_node g ht]
      have hat : at' (unfN m) (((allN m j).length + t : Nat) : Int) = ⟨(at' (at' m.Phases (j : Int)).Nodes (t : Int)).Kind, (at' (at' m.Phases (j : Int)).Nodes (t : Int)).K, (at' (at' m.Phases (j : Int)).Nodes (t : Int)).Args.map (mv m.P.length m.Phases.length j (fstN m j))⟩ := by
        rw [hr, allN, List.append_assoc, at_app_right, at_app_left (by omega) (by rw [phN, List.length_map]; omega), phN, at_map ht]
        rfl
      rw [hat]
      refine nodeV_congr rfl rfl (by simp) fun k hk => ?_
      dsimp only
      rw [at_map hk]
      have harg := nodeB_arg (g.node t ht) k hk
      obtain ⟨b, hb⟩ := Int.eq_ofNat_of_zero_le harg.1
      rw [hb] at harg ⊢
      rw [hv] at harg
      exact ih b (by omega) (by omega)
theorem fstT_lt {g : Nat → Bool} {n : Nat} : fstT g n < n ↔ ∃ j, j < n ∧ g j = true := by
  constructor
  · intro h; exact ⟨_, h, fstT_at h⟩
  · rintro ⟨j, hj, h⟩
    rcases Nat.lt_or_ge (fstT g n) n with h1 | h1
    · exact h1
    · have := fstT_before (g := g) (n := n) (i := j) (by omega)
      rw [h] at this; cases this
theorem unf_top {m : GMission} (o : OkM m) (h128 : (unfN m).length ≤ 128) {s : Nat} {l : List Int} (hf : Fits m s l) {j : Nat} (hj : j < m.Phases.length) : at' (vals (unfF m) s (unfN m).length) (at' (topL m m.Phases.length) (j : Int)) = FV (at' m.Phases (j : Int)) (failM l (j : Int)) := by
  rw [topL_at hj]
  have g := (o.fg j hj).1
  have ht := g.top
  rw [(o.fg j hj).2] at ht
  obtain ⟨a, ha⟩ := Int.eq_ofNat_of_zero_le g.top0
  unfold FV
  rw [ha] at ht ⊢
  exact unf_phase o h128 hf hj a ht
theorem unf_FV {m : GMission} (o : OkM m) (h128 : (unfN m).length ≤ 128) {s : Nat} {l : List Int} (hf : Fits m s l) : FV (unfF m) s = decide (failsM m l < m.Phases.length) := by
  have hk0 := o.k0
  show at' (vals (unfF m) s (unfN m).length) (unfT m) = _
  unfold failsM
  unfold unfT
  split
  · rename_i h1
    have e : unfN m = allN m m.Phases.length ++ [⟨3, 0, topL m m.Phases.length⟩] := by unfold unfN; rw [if_pos h1]
    have hlen : (allN m m.Phases.length).length + 0 < (unfN m).length := by rw [e, List.length_append]; simp
    unfold fstN
    have := unf_node o h128 s hlen
    rw [Nat.add_zero] at this
    rw [this]
    have hat : at' (unfN m) ((allN m m.Phases.length).length : Int) = ⟨3, 0, topL m m.Phases.length⟩ := by rw [e]; exact at_app_mid
    rw [hat, or_val, topL_len]
    refine decide_eq_decide.2 ?_
    rw [fstT_lt]
    constructor
    · rintro ⟨j, hj, h⟩
      rw [unf_top o h128 hf hj] at h
      exact ⟨j, hj, h⟩
    · rintro ⟨j, hj, h⟩
      refine ⟨j, hj, ?_⟩
      rw [unf_top o h128 hf hj]
      exact h
  · rename_i h1
    have := unf_top o h128 hf hk0
    have e : at' (topL m m.Phases.length) 0 = at' (topL m m.Phases.length) ((0 : Nat) : Int) := rfl
    rw [e, this, Bool.eq_iff_iff, decide_eq_true_eq, fstT_lt]
    constructor
    · intro h; exact ⟨0, hk0, h⟩
    · rintro ⟨j, hj, h⟩
      obtain rfl : j = 0 := by omega
      exact h
end Go.Gg
