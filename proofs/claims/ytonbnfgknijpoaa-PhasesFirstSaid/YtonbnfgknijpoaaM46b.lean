/- Missions of phases: the unfolded formula. Conditions: the numbers fit the machine. -/
import Derived.Test.YtonbnfgknijpoaaM46
namespace Go.Gg

/-- The or of the first unfolded events of event i, up to phase j. -/
def soL (K i j : Nat) : List Int := (List.range j).map fun k => ((i * K + k : Nat) : Int)
def orN (K i j : Nat) : GNode := ⟨3, 0, soL K i (j + 1)⟩
def orR (K i : Nat) (j : Nat) : List GNode := (List.range (j - 1)).map fun k => orN K i (k + 1)
def orsL (K : Nat) : Nat → List GNode
  | 0 => []
  | i + 1 => orsL K i ++ orR K i K
theorem orsL_len {K : Nat} : ∀ i, (orsL K i).length = i * (K - 1)
  | 0 => by simp [orsL]
  | i + 1 => by rw [orsL, List.length_append, orsL_len i, orR, List.length_map, List.length_range, Nat.succ_mul]
/-- What stands for 'event i has failed by the end of phase j'. -/
def byv (n K i j : Nat) : Int := if j = 0 then ((i * K : Nat) : Int) else ((n * K + i * (K - 1) + (j - 1) : Nat) : Int)
def byR (n K i j : Nat) : List Int := (List.range j).map (byv n K i)
def byF (n K i j : Nat) : List (List Int) := (List.range n).map fun a => if a < i then byR n K a K else if a = i then byR n K i j else []
theorem at_map_range {α : Type} [Inhabited α] {g : Nat → α} {n i : Nat} (h : i < n) : at' ((List.range n).map g) (i : Int) = g i := by
  simp [at', List.getD_eq_getElem?_getD, h]
theorem at_map {α β : Type} [Inhabited α] [Inhabited β] {g : α → β} {l : List α} {i : Nat} (h : i < l.length) : at' (l.map g) (i : Int) = g (at' l (i : Int)) := by
  simp [at', List.getD_eq_getElem?_getD, List.getElem?_eq_getElem h]
theorem range_snoc {α : Type} {g : Nat → α} {n : Nat} : (List.range n).map g ++ [g n] = (List.range (n + 1)).map g := by
  rw [List.range_succ, List.map_append]; rfl
theorem byF_len {n K i j : Nat} : (byF n K i j).length = n := by simp [byF]
theorem byF_at {n K i j : Nat} (h : i < n) : at' (byF n K i j) (i : Int) = byR n K i j := by
  unfold byF
  rw [at_map_range h, if_neg (by omega), if_pos rfl]
theorem byF_set {n K i j : Nat} (h : i < n) : set' (byF n K i j) (i : Int) (byR n K i j ++ [byv n K i j]) = byF n K i (j + 1) := by
  refine eq_by (by simp [set', byF]) fun a ha => ?_
  have ha : a < n := by simpa [set', byF] using ha
  rw [at_set (by rw [byF_len]; exact h)]
  unfold byF
  rw [at_map_range ha, at_map_range ha]
  by_cases h1 : a = i
  · subst h1
    rw [if_pos rfl, if_neg (by omega), if_pos rfl]
    exact range_snoc
  · rw [if_neg h1, if_neg h1, if_neg h1]
theorem byF_next {n K i : Nat} : byF n K i K = byF n K (i + 1) 0 := by
  unfold byF
  refine List.map_congr_left fun a _ => ?_
  rcases Nat.lt_trichotomy a i with h | h | h
  · rw [if_pos h, if_pos (by omega)]
  · subst h
    rw [if_neg (by omega), if_pos rfl, if_pos (by omega)]
  · rw [if_neg (by omega), if_neg (by omega), if_neg (by omega)]
    split
    · simp [byR]
    · rfl
theorem byF_zero {n K : Nat} : rep' ((n : Nat) : Int) ([] : List Int) = byF n K 0 0 := by
  refine eq_by (by simp [rep', byF]) fun a ha => ?_
  have ha : a < n := by simpa [rep'] using ha
  unfold byF
  rw [at_map_range ha, if_neg (by omega)]
  have : at' (rep' ((n : Nat) : Int) ([] : List Int)) (a : Int) = [] := by simp [at', rep', List.getD_eq_getElem?_getD, ha]
  rw [this]
  split
  · simp [byR]
  · rfl
theorem byF_all {n K a : Nat} (h : a < n) : at' (byF n K n 0) (a : Int) = byR n K a K := by
  unfold byF
  rw [at_map_range h, if_pos h]
theorem byR_len {n K i j : Nat} : (byR n K i j).length = j := by simp [byR]
theorem byR_at {n K i j k : Nat} (h : k < j) : at' (byR n K i j) (k : Int) = byv n K i k := at_map_range h
/-- What an argument of the formula of phase j becomes. -/
def mv (n K j : Nat) (first arg : Int) : Int := if arg < (n : Int) then byv n K arg.toNat j else first + arg - (n : Int)
def phN (n K j : Nat) (first : Int) (l : List GNode) : List GNode := l.map fun x => ⟨x.Kind, x.K, x.Args.map (mv n K j first)⟩
def allN (m : GMission) : Nat → List GNode
  | 0 => orsL m.Phases.length m.P.length
  | j + 1 => allN m j ++ phN m.P.length m.Phases.length j (((m.P.length * m.Phases.length + (allN m j).length : Nat)) : Int) (at' m.Phases (j : Int)).Nodes
def fstN (m : GMission) (j : Nat) : Int := ((m.P.length * m.Phases.length + (allN m j).length : Nat) : Int)
def topL (m : GMission) : Nat → List Int
  | 0 => []
  | j + 1 => topL m j ++ [mv m.P.length m.Phases.length j (fstN m j) (at' m.Phases (j : Int)).Top]
def unfN (m : GMission) : List GNode := if 1 < m.Phases.length then allN m m.Phases.length ++ [⟨3, 0, topL m m.Phases.length⟩] else allN m m.Phases.length
def unfT (m : GMission) : Int := if 1 < m.Phases.length then fstN m m.Phases.length else at' (topL m m.Phases.length) 0
def unfF (m : GMission) : GFormula := ⟨((m.P.length * m.Phases.length : Nat) : Int), unfN m, unfT m⟩
def unfP (m : GMission) : Nat → List GRat
  | 0 => []
  | i + 1 => unfP m i ++ at' m.P (i : Int)
theorem topL_len {m : GMission} : ∀ j, (topL m j).length = j
  | 0 => rfl
  | j + 1 => by rw [topL, List.length_append, topL_len j]; rfl
section
variable {m : GMission} (o : OkM m)
include o
theorem OkM.all_len : ∀ j, j ≤ m.Phases.length → (allN m j).length ≤ 24 + j * 128
  | 0, _ => by
    rw [allN, orsL_len]
    have h1 := o.n24
    have : m.P.length * (m.Phases.length - 1) ≤ m.P.length * m.Phases.length := Nat.mul_le_mul_left _ (by omega)
    omega
  | j + 1, hj => by
    have h1 := OkM.all_len j (by omega)
    have h2 := (o.fg j (by omega)).1.n128
    rw [allN, List.length_append, phN, List.length_map]
    omega
theorem OkM.unfP_len : ∀ i, i ≤ m.P.length → (unfP m i).length = i * m.Phases.length
  | 0, _ => by simp [unfP]
  | i + 1, hi => by rw [unfP, List.length_append, OkM.unfP_len i (by omega), o.row i (by omega), Nat.succ_mul]
end
theorem clone_s {l : List Int} (hl : l.length * 8 ≤ 140737488355328) : slices_Clone___int_int__e_W l fun y => y = l := by
  intro b hb
  refine condB (fun h => ?_) (fun _ => ⟨by simpa using hl, by simp⟩)
  have := hb h
  match l with
  | [] => rfl
  | _ :: _ => simp at this
theorem add_s {kind k2 V T : Int} {args : List Int} {N : List GNode} {Q : List GNode → Int → Prop} (hN : N.length ≤ 1000000) (hV : 0 ≤ V ∧ V ≤ 1000000) (h : Q (N ++ [⟨kind, k2, args⟩]) (V + (N.length : Int))) : phases_Unfold_1__e_W kind k2 args V T N Q := by
  have e : ((N ++ [(⟨kind, k2, args⟩ : GNode)]).length : Int) = (N.length : Int) + 1 := by simp
  have e1 : (N ++ [(⟨kind, k2, args⟩ : GNode)]).length = N.length + 1 := by simp
  refine ⟨by omega, by unfold rng; omega, by unfold rng; omega, ?_⟩
  rw [e, show V + ((N.length : Int) + 1) - 1 = V + (N.length : Int) by omega]
  exact h
theorem image_s {m : GMission} (o : OkM m) {j : Nat} (hj : j < m.Phases.length) {arg : Int} {a : Nat} (ha : arg = (a : Int)) (hal : a ≤ 1000000) {first : Int} (hf : 0 ≤ first ∧ first ≤ 1000000) {Q : Int → Prop} (h : Q (mv m.P.length m.Phases.length j first arg)) :
    phases_Unfold_2__e_W arg (at' m.Phases (j : Int)) (j : Int) first (byF m.P.length m.Phases.length m.P.length 0) Q := by
  have hv : (at' m.Phases (j : Int)).Vars = (m.P.length : Int) := by rw [(o.fg j hj).2, ← o.ev]
  have hp := o.p24
  subst ha
  unfold mv at h
  unfold phases_Unfold_2__e_W
  rw [hv]
  refine condT (fun hc => ⟨⟨by omega, by rw [byF_len]; omega⟩, ?_⟩) (fun hc => ?_)
  · rw [if_pos hc, Int.toNat_natCast] at h
    rw [byF_all (by omega)]
    refine ⟨⟨by omega, by rw [byR_len]; omega⟩, ?_⟩
    rw [byR_at hj]; exact h
  · rw [if_neg hc] at h
    exact ⟨by unfold rng; omega, by unfold rng; omega, h⟩
end Go.Gg
namespace Go.Gg

theorem take_snoc {α : Type} [Inhabited α] {l : List α} {i : Nat} (h : i < l.length) : l.take i ++ [at' l (i : Int)] = l.take (i + 1) := by
  rw [List.take_add_one, List.getElem?_eq_getElem h]
  simp [at', List.getD_eq_getElem?_getD, List.getElem?_eq_getElem h]
theorem soL_len {K i j : Nat} : (soL K i j).length = j := by simp [soL]
theorem soL_snoc {K i j : Nat} : soL K i j ++ [((i * K : Nat) : Int) + (j : Int)] = soL K i (j + 1) := by
  have := range_snoc (g := fun k => ((i * K + k : Nat) : Int)) (n := j)
  unfold soL
  rw [← this]
  simp
theorem orR_len {K i j : Nat} : (orR K i j).length = j - 1 := by simp [orR]
theorem orR_snoc {K i j : Nat} (h : j ≠ 0) : orR K i j ++ [⟨3, 0, soL K i (j + 1)⟩] = orR K i (j + 1) := by
  obtain ⟨a, rfl⟩ : ∃ a, j = a + 1 := ⟨j - 1, by omega⟩
  exact range_snoc (g := fun k => orN K i (k + 1)) (n := a)
theorem ok_prob {a : GRat} (h : probB a = true) : a = ratOf (valR a) := by
  unfold probB at h
  rw [Bool.and_eq_true] at h
  exact okR_eq h.1
theorem rngN {n : Nat} (h : n ≤ 1000000) : rng (n : Int) := by unfold rng; omega
theorem phN_take {n K j t : Nat} {first : Int} {l : List GNode} (ht : t < l.length) : phN n K j first (l.take t) ++ [⟨(at' l (t : Int)).Kind, (at' l (t : Int)).K, (at' l (t : Int)).Args.map (mv n K j first)⟩] = phN n K j first (l.take (t + 1)) := by
  rw [← take_snoc ht, phN, phN, List.map_append]; rfl
theorem OkM.arg_ok {m : GMission} (o : OkM m) {j t a : Nat} (hj : j < m.Phases.length) (ht : t < (at' m.Phases (j : Int)).Nodes.length) (ha : a < (at' (at' m.Phases (j : Int)).Nodes (t : Int)).Args.length) :
    ∃ b : Nat, at' (at' (at' m.Phases (j : Int)).Nodes (t : Int)).Args (a : Int) = (b : Int) ∧ b ≤ 1000 := by
  have g := (o.fg j hj).1
  obtain ⟨h0, h1⟩ := (nodeE_ok (g.node t ht)).arg a ha
  obtain ⟨b, hb⟩ := Int.eq_ofNat_of_zero_le h0
  have := g.v24
  have := g.n128
  exact ⟨b, hb, by omega⟩
theorem phases_Unfold_s {m : GMission} {Q : GFormula → List GRat → Option Int → Prop} (w : WrM m) (hf : FrM m) (h1 : misE m ≠ 0 → Q ⟨0, [], 0⟩ [] (some (misE m))) (h4 : misE m = 0 → 128 < (unfN m).length → Q ⟨0, [], 0⟩ [] (some 4))
    (h2 : misE m = 0 → (unfN m).length ≤ 128 → Q (unfF m) (unfP m m.P.length) none) : phases_Unfold_W m Q := by
  refine phases_Check_s w hf ?_
  rw [isSome_errO]
  refine condT (fun he => ?_) (fun he => ?_)
  · rw [errO_ne he]; exact h1 he
  have he := Classical.not_not.1 he
  have o := okM w hf he
  have h4 := h4 he
  have h2 := h2 he
  have hp := o.p24
  have hk6 := o.k6
  have hk0 := o.k0
  have hn := o.n24
  have e1 : (m.P.length : Int) * (m.Phases.length : Int) = ((m.P.length * m.Phases.length : Nat) : Int) := by simp
  rw [e1]
  refine ⟨rngN (by omega), ⟨by omega, by omega, by omega, by omega⟩, ?_⟩
  refine loopUp (n := m.P.length) (fun i => ((i : Int), byF m.P.length m.Phases.length i 0, orsL m.Phases.length i)) (fun y => y.1) 0 (fun i => by simp) (by rw [byF_zero]; rfl) ?_ ?_
  · intro i next1 hi hn1
    have hik : i * m.Phases.length ≤ 24 := Nat.le_trans (Nat.mul_le_mul_right _ (Nat.le_of_lt hi)) hn
    have e2 : (i : Int) * (m.Phases.length : Int) = ((i * m.Phases.length : Nat) : Int) := by simp
    have hik1 : i * (m.Phases.length - 1) ≤ i * m.Phases.length := Nat.mul_le_mul_left _ (by omega)
    refine condT (fun _ => ?_) (fun hc => absurd (show (i : Int) < ((Int.toNat (m.P.length : Int) : Nat) : Int) by omega) hc)
    rw [e2]
    refine loopUp (n := m.Phases.length) (fun j => ((j : Int), byF m.P.length m.Phases.length i j, soL m.Phases.length i j, orsL m.Phases.length i ++ orR m.Phases.length i j)) (fun y => y.1) 0 (fun j => by simp) (by simp [soL, orR]) ?_ ?_
    · intro j next2 hj hn2
      refine condT (fun _ => ⟨rngN (by omega), by unfold rng; omega, ?_⟩) (fun hc => absurd (show (j : Int) < (m.Phases.length : Int) by omega) hc)
      rw [soL_snoc, soL_len, byF_at hi]
      have hb1 : ((0 : Int) ≤ (i : Int) ∧ (i : Int) < ((byF m.P.length m.Phases.length i j).length : Int)) := ⟨by omega, by rw [byF_len]; omega⟩
      refine ⟨by omega, condE (fun hj0 => ⟨hb1, ⟨by omega, by omega⟩, ?_⟩) (fun hj0 => ⟨hb1, _, clone_s (by rw [soL_len]; omega), ?_⟩)⟩
      · obtain rfl : j = 0 := by omega
        have e3 : at' (soL m.Phases.length i (0 + 1)) 0 = byv m.P.length m.Phases.length i 0 := by simp [soL, byv, at']
        rw [e3]
        refine ⟨?_, hb1, by unfold rng; omega, ?_⟩
        · rw [List.length_append, byR_len]; simp
        · rw [byF_set hi]
          have e4 : orR m.Phases.length i (0 + 1) = orR m.Phases.length i 0 := rfl
          rw [e4] at hn2
          exact hn2
      · have hol : (orsL m.Phases.length i ++ orR m.Phases.length i j).length = i * (m.Phases.length - 1) + (j - 1) := by rw [List.length_append, orsL_len, orR_len]
        refine ⟨_, _, add_s (by omega) (by omega) ⟨rfl, rfl⟩, ?_⟩
        have e3 : ((m.P.length * m.Phases.length : Nat) : Int) + ((orsL m.Phases.length i ++ orR m.Phases.length i j).length : Int) = byv m.P.length m.Phases.length i j := by
          rw [hol, byv, if_neg (by omega)]; omega
        rw [e3]
        refine ⟨?_, hb1, by unfold rng; omega, ?_⟩
        · rw [List.length_append, byR_len]; simp; omega
        · rw [byF_set hi, List.append_assoc, orR_snoc (by omega)]
          exact hn2
    · intro next2
      refine condT (fun hc => absurd hc (by omega)) (fun _ => ⟨by unfold rng; omega, ?_⟩)
      rw [byF_next]
      exact hn1
  intro next1
  refine condT (fun hc => absurd hc (by omega)) (fun _ => ?_)
  have hfst : ∀ j, j ≤ m.Phases.length → 0 ≤ fstN m j ∧ fstN m j ≤ 10000 := fun j hj => by
    have := o.all_len j hj
    unfold fstN
    omega
  refine loopUp (n := m.Phases.length) (fun j => ((j : Int), topL m j, allN m j)) (fun y => y.1) 0 (fun j => by simp) rfl ?_ ?_
  · intro j next3 hj hn3
    have hall := o.all_len j (by omega)
    have g := (o.fg j hj).1
    have hn128 := g.n128
    have hv24 := g.v24
    have ef : ((m.P.length * m.Phases.length : Nat) : Int) + ((allN m j).length : Int) = fstN m j := by unfold fstN; omega
    have hfs := hfst j (by omega)
    refine condT (fun _ => ⟨⟨by omega, by omega⟩, ?_⟩) (fun hc => absurd (show (j : Int) < (m.Phases.length : Int) by omega) hc)
    rw [ef]
    refine ⟨by unfold rng; omega, ?_⟩
    refine loopUp (n := (at' m.Phases (j : Int)).Nodes.length) (fun t => ((t : Int), allN m j ++ phN m.P.length m.Phases.length j (fstN m j) ((at' m.Phases (j : Int)).Nodes.take t))) (fun y => y.1) 0 (fun t => by simp) (by simp [phN]) ?_ ?_
    · intro t next4 ht hn4
      have hal := (nodeE_ok (g.node t ht)).len
      refine condT (fun _ => ⟨⟨by omega, by omega⟩, ?_⟩) (fun hc => absurd (show (t : Int) < ((at' m.Phases (j : Int)).Nodes.length : Int) by omega) hc)
      refine loopUp (n := (at' (at' m.Phases (j : Int)).Nodes (t : Int)).Args.length) (fun a => ((a : Int), ((at' (at' m.Phases (j : Int)).Nodes (t : Int)).Args.take a).map (mv m.P.length m.Phases.length j (fstN m j)))) (fun y => y.1) 0 (fun a => by simp) (by simp) ?_ ?_
      · intro a next5 ha hn5
        obtain ⟨b, hb, hb1⟩ := o.arg_ok hj ht ha
        refine condT (fun _ => ⟨⟨by omega, by omega⟩, letIn ?_⟩) (fun hc => absurd (show (a : Int) < ((at' (at' m.Phases (j : Int)).Nodes (t : Int)).Args.length : Int) by omega) hc)
        refine image_s o hj hb (by omega) (by omega) ⟨?_, by unfold rng; omega, ?_⟩
        · rw [List.length_append, List.length_map, List.length_take]; simp; omega
        · rw [← take_snoc ha, List.map_append] at hn5
          exact hn5
      · intro next5
        refine condT (fun hc => absurd hc (by omega)) (fun _ => ?_)
        rw [List.take_length]
        refine add_s ?_ (by omega) ⟨by unfold rng; omega, ?_⟩
        · rw [List.length_append, phN, List.length_map, List.length_take]; omega
        · rw [List.append_assoc, phN_take ht]
          exact hn4
    · intro next4
      refine condT (fun hc => absurd hc (by omega)) (fun _ => ?_)
      rw [List.take_length]
      obtain ⟨b, hb⟩ := Int.eq_ofNat_of_zero_le g.top0
      have htop := g.top
      refine image_s o hj hb (by omega) (by omega) ⟨?_, by unfold rng; omega, hn3⟩
      rw [List.length_append, topL_len]; simp; omega
  intro next3
  have hall := o.all_len m.Phases.length (by omega)
  refine condT (fun hc => absurd hc (by omega)) (fun _ => ⟨⟨by omega, by rw [topL_len]; omega⟩, fun y => y = (unfT m, unfN m), ?_, ?_⟩)
  · refine condT (fun hc => add_s (by omega) (by omega) ?_) (fun hc => ?_)
    · have ef : ((m.P.length * m.Phases.length : Nat) : Int) + ((allN m m.Phases.length).length : Int) = fstN m m.Phases.length := by unfold fstN; omega
      rw [ef, unfT, unfN, if_pos (by omega), if_pos (by omega)]
    · rw [unfT, unfN, if_neg (by omega), if_neg (by omega)]
  rintro _ rfl
  refine condT (fun hc => h4 (by omega)) (fun hc => ?_)
  have h2 := h2 (by omega)
  refine loopUp (n := m.P.length) (fun i => ((i : Int), unfP m i)) (fun y => y.1) 0 (fun i => by simp) rfl ?_ ?_
  · intro i next6 hi hn6
    have hrow := o.row i hi
    refine condT (fun _ => ⟨⟨by omega, by omega⟩, ?_⟩) (fun hc => absurd (show (i : Int) < (m.P.length : Int) by omega) hc)
    refine loopUp (n := (at' m.P (i : Int)).length) (fun j => ((j : Int), unfP m i ++ (at' m.P (i : Int)).take j)) (fun y => y.1) 0 (fun i => by simp) (by simp) ?_ ?_
    · intro j next7 hj hn7
      have hpr := o.pRp hi (show j < m.Phases.length by omega)
      have epq : ratOf (pq m i j + 0) = at' (at' m.P (i : Int)) (j : Int) := by
        rw [Rat.add_zero]; exact (ok_prob (o.prob i hi j (by omega))).symm
      refine condT (fun _ => ⟨⟨by omega, by omega⟩, add_p hpr (.zero (k := 1) (by decide) (by decide)) (by decide) fun _ => ⟨?_, by unfold rng; omega, ?_⟩⟩) (fun hc => absurd (show (j : Int) < ((at' m.P (i : Int)).length : Int) by omega) hc)
      · have hik : i * m.Phases.length ≤ 24 := Nat.le_trans (Nat.mul_le_mul_right _ (Nat.le_of_lt hi)) hn
        rw [List.length_append, List.length_append, o.unfP_len i (by omega), List.length_take]; simp; omega
      · rw [epq, List.append_assoc, take_snoc hj]
        exact hn7
    · intro next7
      refine condT (fun hc => absurd hc (by omega)) (fun _ => ⟨by unfold rng; omega, ?_⟩)
      rw [List.take_length]
      exact hn6
  · intro next6
    exact condT (fun hc => absurd hc (by omega)) (fun _ => h2)
end Go.Gg
namespace Go.Gg

theorem ors_s {m : GMission} (o : OkM m) {Q : List GNode → Prop} (h : Q (orsL m.Phases.length m.P.length)) : ref46_ors_W (m.P.length : Int) (m.Phases.length : Int) Q := by
  have hp := o.p24
  have hk6 := o.k6
  have hk0 := o.k0
  have hn := o.n24
  refine loopUp (n := m.P.length) (fun i => ((i : Int), orsL m.Phases.length i)) (fun y => y.1) 0 (fun i => by simp) rfl ?_ ?_
  · intro i next1 hi hn1
    have hik : i * m.Phases.length ≤ 24 := Nat.le_trans (Nat.mul_le_mul_right _ (Nat.le_of_lt hi)) hn
    have hik1 : i * (m.Phases.length - 1) ≤ i * m.Phases.length := Nat.mul_le_mul_left _ (by omega)
    have e2 : (i : Int) * (m.Phases.length : Int) = ((i * m.Phases.length : Nat) : Int) := by simp
    refine condT (fun _ => ?_) (fun hc => absurd (show (i : Int) < (m.P.length : Int) by omega) hc)
    rw [e2]
    refine loopUp (n := m.Phases.length - 1) (fun j => (((j + 1 : Nat) : Int), orsL m.Phases.length i ++ orR m.Phases.length i (j + 1))) (fun y => y.1) 1 (fun j => by simp) (by simp [orR]) ?_ ?_
    · intro j next2 hj hn2
      refine condT (fun _ => ?_) (fun hc => absurd (show ((j + 1 : Nat) : Int) < (m.Phases.length : Int) by omega) hc)
      refine loopUp (n := j + 1 + 1) (fun k => ((k : Int), soL m.Phases.length i k)) (fun y => y.1) 0 (fun k => by simp) (by simp [soL]) ?_ ?_
      · intro k next3 hk hn3
        refine condT (fun _ => ⟨rngN (by omega), by unfold rng; omega, ?_⟩) (fun hc => absurd (show (k : Int) ≤ ((j + 1 : Nat) : Int) by omega) hc)
        rw [soL_snoc, soL_len]
        exact ⟨by omega, by unfold rng; omega, hn3⟩
      · intro next3
        refine condT (fun hc => absurd hc (by omega)) (fun _ => ?_)
        rw [List.append_assoc, orR_snoc (by omega)]
        refine ⟨?_, by unfold rng; omega, hn2⟩
        rw [List.length_append, orsL_len, orR_len]; omega
    · intro next2
      refine condT (fun hc => absurd hc (by omega)) (fun _ => ⟨by unfold rng; omega, ?_⟩)
      rw [show m.Phases.length - 1 + 1 = m.Phases.length by omega]
      exact hn1
  · intro next1
    exact condT (fun hc => absurd hc (by omega)) (fun _ => h)
theorem moved_s {m : GMission} (o : OkM m) {j : Nat} (hj : j < m.Phases.length) {arg : Int} {a : Nat} (ha : arg = (a : Int)) (hal : a ≤ 1000000) {first : Int} (hf : 0 ≤ first ∧ first ≤ 1000000) {Q : Int → Prop} (h : Q (mv m.P.length m.Phases.length j first arg)) : ref46_moved_W m (j : Int) arg first Q := by
  subst ha
  have hp := o.p24
  have hk6 := o.k6
  have hk0 := o.k0
  have hn := o.n24
  refine ref46_Events_d o.k0 ?_
  rw [← o.ev]
  unfold mv at h
  refine condT (fun hc => ?_) (fun hc => ?_)
  · rw [if_neg (by omega)] at h
    exact ⟨by unfold rng; omega, by unfold rng; omega, h⟩
  · rw [if_pos (by omega), Int.toNat_natCast] at h
    have hak : a * m.Phases.length ≤ 24 := Nat.le_trans (Nat.mul_le_mul_right _ (by omega)) hn
    have hak1 : a * (m.Phases.length - 1) ≤ a * m.Phases.length := Nat.mul_le_mul_left _ (by omega)
    have e1 : (a : Int) * (m.Phases.length : Int) = ((a * m.Phases.length : Nat) : Int) := by simp
    have e2 : (m.P.length : Int) * (m.Phases.length : Int) = ((m.P.length * m.Phases.length : Nat) : Int) := by simp
    have e3 : (m.Phases.length : Int) - 1 = ((m.Phases.length - 1 : Nat) : Int) := by omega
    have e4 : (a : Int) * ((m.Phases.length - 1 : Nat) : Int) = ((a * (m.Phases.length - 1) : Nat) : Int) := by simp
    unfold byv at h
    refine condE (fun h0 => ?_) (fun h0 => ?_)
    · rw [if_pos (by omega)] at h
      rw [e1]
      exact ⟨by unfold rng; omega, h⟩
    · rw [if_neg (by omega)] at h
      rw [e2, e3, e4]
      refine ⟨by unfold rng; omega, by unfold rng; omega, by unfold rng; omega, by unfold rng; omega, by unfold rng; omega, by unfold rng; omega, ?_⟩
      have e5 : ((m.P.length * m.Phases.length : Nat) : Int) + ((a * (m.Phases.length - 1) : Nat) : Int) + (j : Int) - 1 = ((m.P.length * m.Phases.length + a * (m.Phases.length - 1) + (j - 1) : Nat) : Int) := by omega
      rw [e5]; exact h
theorem ref46_Unfold_s {m : GMission} {Q : GFormula → List GRat → Int → Prop} (o : OkM m) (h4 : 128 < (unfN m).length → Q ⟨0, [], 0⟩ [] 4)
    (h2 : (unfN m).length ≤ 128 → Q (unfF m) (unfP m m.P.length) 0) : ref46_Unfold_W m Q := by
  have hp := o.p24
  have hk6 := o.k6
  have hk0 := o.k0
  have hn := o.n24
  have e1 : (m.P.length : Int) * (m.Phases.length : Int) = ((m.P.length * m.Phases.length : Nat) : Int) := by simp
  refine ref46_Events_d o.k0 ?_
  rw [← o.ev, e1]
  refine ⟨rngN (by omega), ors_s o ?_⟩
  have hfst : ∀ j, j ≤ m.Phases.length → 0 ≤ fstN m j ∧ fstN m j ≤ 10000 := fun j hj => by
    have := o.all_len j hj
    unfold fstN
    omega
  refine loopUp (n := m.Phases.length) (fun j => ((j : Int), allN m j, topL m j)) (fun y => y.1) 0 (fun j => by simp) rfl ?_ ?_
  · intro j next3 hj hn3
    have hall := o.all_len j (by omega)
    have g := (o.fg j hj).1
    have hn128 := g.n128
    have hv24 := g.v24
    have ef : ((m.P.length * m.Phases.length : Nat) : Int) + ((allN m j).length : Int) = fstN m j := by unfold fstN; omega
    have hfs := hfst j (by omega)
    refine condT (fun _ => ⟨⟨by omega, by omega⟩, ?_⟩) (fun hc => absurd (show (j : Int) < (m.Phases.length : Int) by omega) hc)
    rw [ef]
    refine ⟨by unfold rng; omega, ?_⟩
    refine loopUp (n := (at' m.Phases (j : Int)).Nodes.length) (fun t => ((t : Int), allN m j ++ phN m.P.length m.Phases.length j (fstN m j) ((at' m.Phases (j : Int)).Nodes.take t))) (fun y => y.1) 0 (fun t => by simp) (by simp [phN]) ?_ ?_
    · intro t next4 ht hn4
      have hal := (nodeE_ok (g.node t ht)).len
      have hb : (0 : Int) ≤ (t : Int) ∧ (t : Int) < ((at' m.Phases (j : Int)).Nodes.length : Int) := ⟨by omega, by omega⟩
      refine condT (fun _ => ⟨hb, hb, ?_⟩) (fun hc => absurd (show (t : Int) < ((at' m.Phases (j : Int)).Nodes.length : Int) by omega) hc)
      refine loopUp (n := (at' (at' m.Phases (j : Int)).Nodes (t : Int)).Args.length) (fun a => ((a : Int), ((at' (at' m.Phases (j : Int)).Nodes (t : Int)).Args.take a).map (mv m.P.length m.Phases.length j (fstN m j)))) (fun y => y.1) 0 (fun a => by simp) (by simp) ?_ ?_
      · intro a next5 ha hn5
        obtain ⟨b, hb2, hb1⟩ := o.arg_ok hj ht ha
        refine ⟨hb, condT (fun _ => ⟨hb, ⟨by omega, by omega⟩, _, moved_s o hj hb2 (by omega) (by omega) rfl, ?_⟩) (fun hc => absurd (show (a : Int) < ((at' (at' m.Phases (j : Int)).Nodes (t : Int)).Args.length : Int) by omega) hc)⟩
        refine ⟨?_, by unfold rng; omega, ?_⟩
        · rw [List.length_append, List.length_map, List.length_take]; simp; omega
        · rw [← take_snoc ha, List.map_append] at hn5
          exact hn5
      · intro next5
        refine ⟨hb, condT (fun hc => absurd hc (by omega)) (fun _ => ?_)⟩
        rw [List.take_length, List.append_assoc, phN_take ht]
        refine ⟨?_, by unfold rng; omega, hn4⟩
        rw [List.length_append, phN, List.length_map, List.length_take]; omega
    · intro next4
      refine condT (fun hc => absurd hc (by omega)) (fun _ => ?_)
      rw [List.take_length]
      obtain ⟨b, hb⟩ := Int.eq_ofNat_of_zero_le g.top0
      have htop := g.top
      refine ⟨_, moved_s o hj hb (by omega) (by omega) rfl, ?_, by unfold rng; omega, hn3⟩
      rw [List.length_append, topL_len]; simp; omega
  intro next3
  have hall := o.all_len m.Phases.length (by omega)
  refine condT (fun hc => absurd hc (by omega)) (fun _ => ⟨⟨by omega, by rw [topL_len]; omega⟩, fun y => y = (unfT m, unfN m), ?_, ?_⟩)
  · have ef : ((m.P.length * m.Phases.length : Nat) : Int) + ((allN m m.Phases.length).length : Int) = fstN m m.Phases.length := by unfold fstN; omega
    have hfs := hfst m.Phases.length (by omega)
    refine condT (fun hc => ?_) (fun hc => ?_)
    · rw [ef, unfT, unfN, if_pos (by omega), if_pos (by omega)]
      refine ⟨by unfold rng; omega, ?_, rfl⟩
      rw [List.length_append]; simp; omega
    · rw [unfT, unfN, if_neg (by omega), if_neg (by omega)]
  rintro _ rfl
  refine condT (fun hc => h4 (by omega)) (fun hc => ?_)
  have h2 := h2 (by omega)
  refine loopUp (n := m.P.length) (fun i => ((i : Int), unfP m i)) (fun y => y.1) 0 (fun i => by simp) rfl ?_ ?_
  · intro i next6 hi hn6
    have hik : i * m.Phases.length ≤ 24 := Nat.le_trans (Nat.mul_le_mul_right _ (Nat.le_of_lt hi)) hn
    refine condT (fun _ => ⟨⟨by omega, by omega⟩, ?_, by unfold rng; omega, hn6⟩) (fun hc => absurd (show (i : Int) < (m.P.length : Int) by omega) hc)
    rw [List.length_append, o.unfP_len i (by omega), o.row i hi]; omega
  · intro next6
    exact condT (fun hc => absurd hc (by omega)) (fun _ => h2)

/-! ### The law's example -/
theorem law46_part_s {n d : Int} {Q : GRat → Prop} (hn : rng n) (hd : rng d) (h0 : d ≠ 0) (h : Q (ratOf ((n : Rat) / (d : Rat)))) : law46_part_W n d Q := ref02_Make_s hn hd (fun e => absurd e h0) fun _ => h
def exM (r : GRat) : GMission := ⟨[⟨2, [⟨2, 0, [0, 1]⟩], 2⟩, ⟨2, [⟨3, 0, [0, 1]⟩], 2⟩], [[r, r], [r, r]]⟩
def halfR : Rat := ((1 : Int) : Rat) / ((2 : Int) : Rat)
theorem mis_zero {m : GMission} (h0 : 0 < m.Phases.length) (h6 : m.Phases.length ≤ 6) (hf : ∀ j : Nat, j < m.Phases.length → chkM (at' m.Phases (j : Int)) = 0 ∧ (at' m.Phases (j : Int)).Vars = evt m) (h24 : evt m * (m.Phases.length : Int) ≤ 24) (hp : (m.P.length : Int) = evt m)
    (hr : ∀ i : Nat, i < m.P.length → (at' m.P (i : Int)).length = m.Phases.length ∧ ∀ j : Nat, j < (at' m.P (i : Int)).length → probB (at' (at' m.P (i : Int)) (j : Int)) = true) : misE m = 0 := by
  unfold misE
  have hz : firstE (phE m) m.Phases.length = 0 := firstE_zero.2 fun j hj => by
    unfold phE
    rw [if_neg (fun hh => hh (hf j hj).1), if_neg (fun hh => hh (hf j hj).2)]
  rw [if_neg (by omega), if_neg (by omega), if_neg (fun hh => hh hz), if_neg (by omega), if_neg (fun hh => hh hp)]
  refine firstE_zero.2 fun i hi => ?_
  unfold rowE
  rw [if_neg (fun hh => hh (hr i hi).1), if_neg]
  rintro ⟨j, hj, hb⟩
  rw [(hr i hi).2 j hj] at hb
  cases hb
theorem half_RB : RB 129 halfR := (RB_div (RB_int (n := 1) (k := 6) (by omega) (by decide)) (RB_int (n := 2) (k := 6) (by omega) (by decide))).mono (by omega)
theorem ex_two {P : Nat → Prop} (h0 : P 0) (h1 : P 1) : ∀ i : Nat, i < 2 → P i := fun i hi => by
  match i with
  | 0 => exact h0
  | 1 => exact h1
  | i + 2 => omega
section
variable {r : GRat} (hr : Fr r) (hv : valR r = halfR) (hb : probB r = true)
include hr hv
theorem ex_Fr : FrM (exM r) := ex_two (ex_two ⟨hr, by show RB 129 (valR r); rw [hv]; exact half_RB⟩ ⟨hr, by show RB 129 (valR r); rw [hv]; exact half_RB⟩) (ex_two ⟨hr, by show RB 129 (valR r); rw [hv]; exact half_RB⟩ ⟨hr, by show RB 129 (valR r); rw [hv]; exact half_RB⟩)
omit hv in
theorem ex_Wr : WrM (exM r) := ⟨by show 2 ≤ 9223372036854775807; decide, by show 2 ≤ 9223372036854775807; decide, ex_two (by show 2 ≤ 9223372036854775807; decide) (by show 2 ≤ 9223372036854775807; decide), ex_two (by show rng 2; unfold rng; omega) (by show rng 2; unfold rng; omega), ex_two (ex_two ⟨hr.1, hr.2.1⟩ ⟨hr.1, hr.2.1⟩) (ex_two ⟨hr.1, hr.2.1⟩ ⟨hr.1, hr.2.1⟩)⟩
omit hr hv in
include hb in
theorem ex_mis : misE (exM r) = 0 :=
  mis_zero (by show 0 < 2; decide) (by show 2 ≤ 6; decide) (ex_two ⟨by show chkM ⟨2, [⟨2, 0, [0, 1]⟩], 2⟩ = 0; decide +kernel, rfl⟩ ⟨by show chkM ⟨2, [⟨3, 0, [0, 1]⟩], 2⟩ = 0; decide +kernel, rfl⟩) (by show (2 : Int) * 2 ≤ 24; decide) rfl (ex_two ⟨rfl, ex_two hb hb⟩ ⟨rfl, ex_two hb hb⟩)
omit hr in
theorem ex_w : wM (exM r) [1, 2] 2 = ((1 : Int) : Rat) / ((16 : Int) : Rat) := by
  have : wM (exM r) [1, 2] 2 = 1 * (1 - valR r) * valR r * (1 - valR r) * (1 - valR r) := rfl
  rw [this, hv]
  unfold halfR
  decide +kernel
end
theorem law46_awake_s {Q : Bool → Prop} (h : Q true) : law46_awake_W Q := by
  have rg : ∀ n : Int, n.natAbs < 64 → rng n := fun n hn => by unfold rng; omega
  have hr : Fr (ratOf halfR) := Fr_ratOf half_RB (by decide)
  have hv : valR (ratOf halfR) = halfR := valR_ratOf _
  have hb : probB (ratOf halfR) = true := by
    unfold probB
    rw [okR_ratOf, hv]
    unfold halfR
    decide +kernel
  have ex : ∀ {Q : GMission → Prop}, Q (exM (ratOf halfR)) → law46_example_W Q := fun hQ => law46_part_s (rg _ (by decide)) (rg _ (by decide)) (by decide) hQ
  have w := ex_Wr hr
  have f := ex_Fr hr hv
  have hm := ex_mis hb
  have he : histE (exM (ratOf halfR)) [1, 2] = 0 := okH_E hm ⟨rfl, ex_two ⟨by decide, by show (1 : Int) ≤ 2; decide⟩ ⟨by decide, by show (2 : Int) ≤ 2; decide⟩⟩
  have ew := ex_w hv
  refine ex (phases_Fails_s w f (by decide) (fun hne => absurd he hne) fun _ => ex (phases_State_s w f (by decide) (fun hne => absurd he hne) fun _ => ex (phases_Weight_s w f (by decide) (fun hne => absurd he hne) fun _ hR => ex (phases_Unfold_s w f (fun hne => absurd hm hne) (fun _ hl => absurd hl (by show ¬ 128 < 5; decide)) fun _ _ => ?_))))
  have e1 : failsM (exM (ratOf halfR)) [1, 2] = 1 := by
    show fstT (fun j => FV (at' [⟨2, [⟨2, 0, [0, 1]⟩], 2⟩, ⟨2, [⟨3, 0, [0, 1]⟩], 2⟩] (j : Int)) (failM [1, 2] (j : Int))) 2 = 1
    decide +kernel
  have e2 : stM (exM (ratOf halfR)).Phases.length [1, 2] ([1, 2] : List Int).length = 2 := by
    show stM 2 [1, 2] 2 = 2
    decide +kernel
  rw [e1, e2]
  refine condB (fun _ => condB (fun _ => condB (fun _ => condB (fun _ => condB (fun _ => condB (fun _ => ?_) (fun hh => by cases hh)) (fun hh => by cases hh)) (fun hh => by cases hh)) (fun hh => by cases hh)) (fun hh => by cases hh)) (fun hh => by cases hh)
  refine ⟨_, law46_part_s (rg _ (by decide)) (rg _ (by decide)) (by decide) rfl, true, ?_, condB (fun _ => condE (fun _ => condE (fun _ => h) (fun hh => absurd rfl hh)) (fun hh => absurd rfl hh)) (fun hh => by cases hh)⟩
  have ew' : wM (exM (ratOf halfR)) [1, 2] ([1, 2] : List Int).length = ((1 : Int) : Rat) / ((16 : Int) : Rat) := ew
  rw [ew'] at hR ⊢
  exact base_Rat_s hR.len.1 hR.len.2 (by rw [decide_eq_true rfl])
theorem law46_large_s {m : GMission} {Q : Bool → Prop} (w : WrM m) (h : ∀ b, (b = false → FrM m) → Q b) : law46_large_W m Q := by
  have ht : Q true := h true fun hh => by cases hh
  refine condT (fun _ => ht) (fun _ => condT (fun _ => ht) (fun hp => ?_))
  refine scanW (fun i => ¬ ∀ j : Nat, j < (at' m.P (i : Int)).length → Fr (at' (at' m.P (i : Int)) (j : Int)) ∧ RB 129 (valR (at' (at' m.P (i : Int)) (j : Int)))) w.lp (fun i next hi hI hnx => ?_) (fun hall => ?_)
  · refine ⟨⟨by omega, by omega⟩, condT (fun _ => ht) (fun hl => ?_)⟩
    have hb : (0 : Int) ≤ (i : Int) ∧ (i : Int) < (m.P.length : Int) := ⟨by omega, by omega⟩
    refine loopInv (n := (at' m.P (i : Int)).length) (fun j y => y = (j : Int) ∧ ∀ k : Nat, k < j → Fr (at' (at' m.P (i : Int)) (k : Int)) ∧ RB 129 (valR (at' (at' m.P (i : Int)) (k : Int)))) (fun y => y) 0 (fun j y h => by rw [h.1, Int.add_zero]) ⟨rfl, fun k hk => absurd hk (by omega)⟩ ?_ ?_
    · rintro j _ next2 hj ⟨rfl, hI2⟩ hn2
      have hb2 : (0 : Int) ≤ (j : Int) ∧ (j : Int) < ((at' m.P (i : Int)).length : Int) := ⟨by omega, by omega⟩
      refine ⟨hb, condT (fun _ => ⟨hb, hb2, condT (fun _ => ht) (fun h1 => ⟨hb, hb2, condT (fun _ => ht) (fun h2 => ⟨by unfold rng; omega, hn2 _ ⟨by omega, fun k hk => ?_⟩⟩)⟩)⟩) (fun hc => absurd hb2.2 hc)⟩
      rcases Nat.lt_or_ge k j with h3 | h3
      · exact hI2 k h3
      · obtain rfl : k = j := by omega
        obtain ⟨w1, w2⟩ := w.wd i hi k hj
        exact ⟨⟨w1, w2, by omega, by omega⟩, (RB_valR w1 w2 (m := 4) (by omega) (by omega)).mono (by omega)⟩
    · rintro _ next2 ⟨rfl, hI2⟩
      exact ⟨hb, condT (fun hc => absurd hc (by omega)) (fun _ => hnx (fun hh => hh hI2))⟩
  · exact h false fun _ i hi => Classical.not_not.1 (hall i hi)
end Go.Gg
