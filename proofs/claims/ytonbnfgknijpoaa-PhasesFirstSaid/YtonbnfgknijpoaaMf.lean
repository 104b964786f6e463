/- The checks of a formula: the program's and the reference's functions. Conditions: the numbers fit the machine. -/
import Derived.Test.YtonbnfgknijpoaaMb
import Derived.Test.YtonbnfgknijpoaaMa
import Derived.Test.YtonbnfgknijpoaaWF
namespace Go.Gg

def argsB (k : Int) (n : Nat) : Bool := if k = 0 then decide (n = 0) else if k = 1 then decide (n = 1) else decide (1 ≤ n ∧ n ≤ 16)
/-- The number of the error of a node. -/
def nodeE (f : GFormula) (i : Nat) : Int :=
  if (at' f.Nodes (i : Int)).Kind < 0 ∨ 5 < (at' f.Nodes (i : Int)).Kind then 7
  else if argsB (at' f.Nodes (i : Int)).Kind (at' f.Nodes (i : Int)).Args.length = false then 11
  else if ∃ j < (at' f.Nodes (i : Int)).Args.length, at' (at' f.Nodes (i : Int)).Args (j : Int) < 0 ∨ f.Vars + i ≤ at' (at' f.Nodes (i : Int)).Args (j : Int) then 10
  else if (at' f.Nodes (i : Int)).Kind = 0 then (if (at' f.Nodes (i : Int)).K ≠ 0 ∧ (at' f.Nodes (i : Int)).K ≠ 1 then 3 else 0)
  else if (at' f.Nodes (i : Int)).Kind = 4 then (if (at' f.Nodes (i : Int)).K < 1 ∨ ((at' f.Nodes (i : Int)).Args.length : Int) < (at' f.Nodes (i : Int)).K then 3 else 0)
  else if (at' f.Nodes (i : Int)).K ≠ 0 then 2 else 0
def validB (f : GFormula) (a : Int) : Bool := decide (0 ≤ f.Vars ∧ 0 ≤ a ∧ (a < f.Vars ∨ a - f.Vars < f.Nodes.length))
/-- The number of the first error of a formula. -/
def chkM (f : GFormula) : Int :=
  if f.Vars < 0 ∨ 24 < f.Vars then 3 else if 128 < f.Nodes.length then 4
  else if firstE (nodeE f) f.Nodes.length ≠ 0 then firstE (nodeE f) f.Nodes.length
  else if validB f f.Top = false then 10 else 0
theorem argsB_le {k : Int} {n : Nat} (h : argsB k n = true) : n ≤ 16 := by
  unfold argsB at h
  split at h
  · simp at h; omega
  · split at h
    · simp at h; omega
    · simp at h; omega
theorem formula_arguments_s {k : Int} {n : Nat} {Q : Bool → Prop} (h : Q (argsB k n)) : formula_arguments_W k n Q := by
  unfold argsB at h
  refine condE (fun hc => ?_) (fun hc => condE (fun hc1 => ?_) (fun hc1 => condT (fun h1 => ?_) (fun h1 => ?_)))
  · rw [if_pos hc] at h
    rw [show ((n : Int) == 0) = decide (n = 0) by rw [Bool.eq_iff_iff]; simp]; exact h
  · rw [if_neg hc, if_pos hc1] at h
    rw [show ((n : Int) == 1) = decide (n = 1) by rw [Bool.eq_iff_iff]; simp; omega]; exact h
  · rw [if_neg hc, if_neg hc1] at h
    rw [show decide ((n : Int) ≤ 16) = decide (1 ≤ n ∧ n ≤ 16) from decide_eq_decide.2 (by omega)]; exact h
  · rw [if_neg hc, if_neg hc1, decide_eq_false (by omega)] at h; exact h
theorem formula_checkNode_s {f : GFormula} {i : Nat} {Q : Option Int → Prop} (hi : i < f.Nodes.length) (hV : 0 ≤ f.Vars ∧ f.Vars ≤ 24) (hn : f.Nodes.length ≤ 128) (h : Q (errO (nodeE f i))) : formula_checkNode_W f i Q := by
  unfold nodeE at h
  refine ⟨⟨by omega, by omega⟩, fun y => y = decide ((at' f.Nodes (i : Int)).Kind < 0 ∨ 5 < (at' f.Nodes (i : Int)).Kind), ?_, ?_⟩
  · exact condT (fun hc => (decide_eq_true (Or.inl hc)).symm) (fun hc => decide_eq_decide.2 ⟨Or.inr, fun hh => hh.resolve_left hc⟩)
  rintro _ rfl
  refine condT (fun hc => ?_) (fun hc => ?_)
  · rw [if_pos hc] at h; exact h
  rw [if_neg hc] at h
  refine formula_arguments_s (condB (fun hb => ?_) (fun hb => ?_))
  · rw [if_pos (by simpa using hb)] at h; exact h
  simp only [Bool.not_eq_false'] at hb
  rw [if_neg (by rw [hb]; simp)] at h
  have hl := argsB_le hb
  refine scanW (fun j => at' (at' f.Nodes (i : Int)).Args (j : Int) < 0 ∨ f.Vars + i ≤ at' (at' f.Nodes (i : Int)).Args (j : Int)) (by omega) (fun j next hj hI hnx => ?_) (fun hall => ?_)
  · refine ⟨⟨by omega, by omega⟩, fun y => y = decide (at' (at' f.Nodes (i : Int)).Args (j : Int) < 0 ∨ f.Vars + i ≤ at' (at' f.Nodes (i : Int)).Args (j : Int)), ?_, ?_⟩
    · exact condT (fun hc2 => (decide_eq_true (Or.inl hc2)).symm) (fun hc2 => ⟨by unfold rng; omega, decide_eq_decide.2 ⟨Or.inr, fun hh => hh.resolve_left hc2⟩⟩)
    · rintro _ rfl
      refine condT (fun hb2 => ?_) (fun hb2 => hnx hb2)
      rw [if_pos ⟨j, hj, hb2⟩] at h; exact h
  rw [if_neg (by rintro ⟨j, hj, hb2⟩; exact hall j hj hb2)] at h
  refine condE (fun h0 => ?_) (fun h0 => ?_)
  · rw [if_pos h0] at h
    refine ⟨fun y => y = decide ((at' f.Nodes (i : Int)).K ≠ 0 ∧ (at' f.Nodes (i : Int)).K ≠ 1), ?_, ?_⟩
    · refine condN (fun hk => ?_) (fun hk => ?_)
      · show ((at' f.Nodes (i : Int)).K != 1) = _
        rw [Bool.eq_iff_iff]; simp [hk]
      · rw [decide_eq_false (fun hh => hh.1 hk)]
    · rintro _ rfl
      refine condT (fun hk => ?_) (fun hk => ?_)
      · rw [if_pos hk] at h; exact h
      · rw [if_neg hk] at h; exact h
  rw [if_neg h0] at h
  refine condE (fun h4 => ?_) (fun h4 => ?_)
  · rw [if_pos h4] at h
    refine ⟨fun y => y = decide ((at' f.Nodes (i : Int)).K < 1 ∨ ((at' f.Nodes (i : Int)).Args.length : Int) < (at' f.Nodes (i : Int)).K), ?_, ?_⟩
    · exact condT (fun hk => (decide_eq_true (Or.inl hk)).symm) (fun hk => decide_eq_decide.2 ⟨Or.inr, fun hh => hh.resolve_left hk⟩)
    · rintro _ rfl
      refine condT (fun hk => ?_) (fun hk => ?_)
      · rw [if_pos hk] at h; exact h
      · rw [if_neg hk] at h; exact h
  rw [if_neg h4] at h
  refine condN (fun hk => ?_) (fun hk => ?_)
  · rw [if_pos hk] at h; exact h
  · rw [if_neg (fun hh => hh hk)] at h; exact h
theorem ref08_node_s {f : GFormula} {i : Nat} {Q : Int → Prop} (hi : i < f.Nodes.length) (hV : 0 ≤ f.Vars ∧ f.Vars ≤ 24) (hn : f.Nodes.length ≤ 128) (h : Q (nodeE f i)) : ref08_node_W f i Q := by
  unfold nodeE at h
  have hf7 : ((at' f.Nodes (i : Int)).Kind ≠ 0 ∧ (at' f.Nodes (i : Int)).Kind ≠ 1 ∧ (at' f.Nodes (i : Int)).Kind ≠ 2 ∧ (at' f.Nodes (i : Int)).Kind ≠ 3 ∧ (at' f.Nodes (i : Int)).Kind ≠ 4 ∧ (at' f.Nodes (i : Int)).Kind ≠ 5) → Q 7 := fun hh => by
    rw [if_pos (by omega)] at h; exact h
  refine ⟨⟨by omega, by omega⟩, fun y => (0 ≤ (at' f.Nodes (i : Int)).Kind ∧ (at' f.Nodes (i : Int)).Kind ≤ 5) ∧ (0 ≤ y.1 ∧ y.1 ≤ 1 ∧ 0 ≤ y.2 ∧ y.2 ≤ 16) ∧ ∀ n : Nat, argsB (at' f.Nodes (i : Int)).Kind n = decide (y.1 ≤ n ∧ (n : Int) ≤ y.2), ?_, ?_⟩
  · have hbig : ∀ n : Nat, (at' f.Nodes (i : Int)).Kind ≠ 0 → (at' f.Nodes (i : Int)).Kind ≠ 1 → argsB (at' f.Nodes (i : Int)).Kind n = decide ((1 : Int) ≤ n ∧ (n : Int) ≤ 16) := fun n h0 h1 => by
      rw [argsB, if_neg h0, if_neg h1]; exact decide_eq_decide.2 (by omega)
    refine condE (fun h0 : (at' f.Nodes (i : Int)).Kind = 0 => ⟨by omega, by decide, fun n => by rw [argsB, if_pos h0]; exact decide_eq_decide.2 (by dsimp only; omega)⟩) (fun h0 => condE (fun h1 : (at' f.Nodes (i : Int)).Kind = 1 => ⟨by omega, by decide, fun n => by rw [argsB, if_neg h0, if_pos h1]; exact decide_eq_decide.2 (by dsimp only; omega)⟩) (fun h1 => ?_))
    exact condE (fun h2 : (at' f.Nodes (i : Int)).Kind = 2 => ⟨by omega, by decide, fun n => hbig n h0 h1⟩) (fun h2 => condE (fun h3 : (at' f.Nodes (i : Int)).Kind = 3 => ⟨by omega, by decide, fun n => hbig n h0 h1⟩) (fun h3 => condE (fun h4 : (at' f.Nodes (i : Int)).Kind = 4 => ⟨by omega, by decide, fun n => hbig n h0 h1⟩) (fun h4 => condE (fun h5 : (at' f.Nodes (i : Int)).Kind = 5 => ⟨by omega, by decide, fun n => hbig n h0 h1⟩) (fun h5 => hf7 ⟨h0, h1, h2, h3, h4, h5⟩))))
  rintro ⟨lo, hi2⟩ ⟨hkind, hb, hargs⟩
  dsimp only at hb hargs
  rw [if_neg (by omega)] at h
  refine condT (fun (hc : ((at' f.Nodes (i : Int)).Args.length : Int) < lo) => ?_) (fun (hc : ¬ ((at' f.Nodes (i : Int)).Args.length : Int) < lo) => condT (fun (hc2 : hi2 < ((at' f.Nodes (i : Int)).Args.length : Int)) => ?_) (fun (hc2 : ¬ hi2 < ((at' f.Nodes (i : Int)).Args.length : Int)) => ?_))
  · rw [if_pos (by rw [hargs]; exact decide_eq_false (by omega))] at h; exact h
  · rw [if_pos (by rw [hargs]; exact decide_eq_false (by omega))] at h; exact h
  rw [if_neg (by rw [hargs, decide_eq_true (by omega)]; simp)] at h
  refine scanW (n := (at' f.Nodes (i : Int)).Args.length) (fun j => at' (at' f.Nodes (i : Int)).Args (j : Int) < 0 ∨ f.Vars + i ≤ at' (at' f.Nodes (i : Int)).Args (j : Int)) (by omega) (fun j next hj hI hnx => ?_) (fun hall => ?_)
  · refine ⟨⟨by omega, show (j : Int) < ((at' f.Nodes (i : Int)).Args.length : Int) by omega⟩, condT (fun hc3 => ?_) (fun hc3 => ⟨by unfold rng; omega, condT (fun hc4 => ?_) (fun hc4 => hnx (by rw [not_or]; exact ⟨hc3, hc4⟩))⟩)⟩
    · rw [if_pos ⟨j, hj, Or.inl hc3⟩] at h; exact h
    · rw [if_pos ⟨j, hj, Or.inr hc4⟩] at h; exact h
  rw [if_neg (by rintro ⟨j, hj, hb2⟩; exact hall j hj hb2)] at h
  refine condE (fun h0 => ?_) (fun h0 => ?_)
  · rw [if_pos h0] at h
    refine condN (fun hk => condN (fun hk1 => ?_) (fun hk1 => ?_)) (fun hk => ?_)
    · rw [if_pos ⟨hk, hk1⟩] at h; exact h
    · rw [if_neg (fun hh => hh.2 hk1)] at h; exact h
    · rw [if_neg (fun hh => hh.1 hk)] at h; exact h
  rw [if_neg h0] at h
  refine condE (fun h4 => ?_) (fun h4 => ?_)
  · rw [if_pos h4] at h
    refine condT (fun hk => ?_) (fun hk => condT (fun hk2 => ?_) (fun hk2 => ?_))
    · rw [if_pos (Or.inl hk)] at h; exact h
    · rw [if_pos (Or.inr hk2)] at h; exact h
    · rw [if_neg (by rw [not_or]; exact ⟨hk, hk2⟩)] at h; exact h
  rw [if_neg h4] at h
  refine condN (fun hk => ?_) (fun hk => ?_)
  · rw [if_pos hk] at h; exact h
  · rw [if_neg (fun hh => hh hk)] at h; exact h
theorem formula_Valid_s {f : GFormula} {a : Int} {Q : Bool → Prop} (ha : rng a) (h : Q (validB f a)) : formula_Valid_W f a Q := by
  unfold validB at h
  unfold rng at ha
  refine condT (fun h1 => condT (fun h2 => condT (fun h3 => ?_) (fun h3 => ⟨by unfold rng; omega, ?_⟩)) (fun h2 => ?_)) (fun h1 => ?_)
  · rw [decide_eq_true ⟨h1, h2, Or.inl h3⟩] at h; exact h
  · rw [show decide (a - f.Vars < (f.Nodes.length : Int)) = decide (0 ≤ f.Vars ∧ 0 ≤ a ∧ (a < f.Vars ∨ a - f.Vars < f.Nodes.length)) from decide_eq_decide.2 (by omega)]; exact h
  · rw [decide_eq_false (fun hh => h2 hh.2.1)] at h; exact h
  · rw [decide_eq_false (fun hh => h1 hh.1)] at h; exact h
theorem ref08_Valid_s {f : GFormula} {a : Int} {Q : Bool → Prop} (ha : rng a) (h : Q (validB f a)) : ref08_Valid_W f a Q := formula_Valid_s ha h
theorem isSome_errO {e : Int} : (errO e).isSome = decide (e ≠ 0) := by
  unfold errO
  by_cases h : e = 0
  · rw [if_pos h, decide_eq_false (fun hh => hh h)]; rfl
  · rw [if_neg h, decide_eq_true h]; rfl
theorem formula_Check_s {f : GFormula} {Q : Option Int → Prop} (ht : rng f.Top) (h : Q (errO (chkM f))) : formula_Check_W f Q := by
  unfold chkM at h
  refine ⟨fun y => y = decide (f.Vars < 0 ∨ 24 < f.Vars), ?_, ?_⟩
  · exact condT (fun hc => (decide_eq_true (Or.inl hc)).symm) (fun hc => decide_eq_decide.2 ⟨Or.inr, fun hh => hh.resolve_left hc⟩)
  rintro _ rfl
  refine condT (fun hc => ?_) (fun hc => ?_)
  · rw [if_pos hc] at h; exact h
  rw [if_neg hc] at h
  refine condT (fun hc2 => ?_) (fun hc2 => ?_)
  · rw [if_pos (by omega)] at h; exact h
  rw [if_neg (by omega)] at h
  refine scanW (fun i => nodeE f i ≠ 0) (by omega) (fun i next hi hI hnx => ?_) (fun hall => ?_)
  · refine formula_checkNode_s hi (by omega) (by omega) ?_
    rw [isSome_errO]
    refine condT (fun he => ?_) (fun he => hnx he)
    rw [firstE_hit (fun j hj => Decidable.not_not.1 (hI j hj)) he _ hi, if_pos he] at h
    exact h
  · rw [if_neg (fun hh => hh (firstE_zero.2 fun j hj => Decidable.not_not.1 (hall j hj)))] at h
    refine formula_Valid_s ht (condB (fun hb => ?_) (fun hb => ?_))
    · rw [if_pos (by simpa using hb)] at h; exact h
    · rw [if_neg (by simpa using hb)] at h; exact h
theorem ref08_Check_s {f : GFormula} {Q : Int → Prop} (ht : rng f.Top) (h : Q (chkM f)) : ref08_Check_W f Q := by
  unfold chkM at h
  refine condT (fun hc => ?_) (fun hc => condT (fun hc1 => ?_) (fun hc1 => ?_))
  · rw [if_pos (Or.inl hc)] at h; exact h
  · rw [if_pos (Or.inr hc1)] at h; exact h
  rw [if_neg (by omega)] at h
  refine condT (fun hc2 => ?_) (fun hc2 => ?_)
  · rw [if_pos (by omega)] at h; exact h
  rw [if_neg (by omega)] at h
  refine scanW (fun i => nodeE f i ≠ 0) (by omega) (fun i next hi hI hnx => ?_) (fun hall => ?_)
  · refine ref08_node_s hi (by omega) (by omega) (condN (fun he => ?_) (fun he => hnx (fun hh => hh he)))
    rw [firstE_hit (fun j hj => Decidable.not_not.1 (hI j hj)) he _ hi, if_pos he] at h
    exact h
  · rw [if_neg (fun hh => hh (firstE_zero.2 fun j hj => Decidable.not_not.1 (hall j hj)))] at h
    refine ref08_Valid_s ht (condB (fun hb => ?_) (fun hb => ?_))
    · rw [if_pos (by simpa using hb)] at h; exact h
    · rw [if_neg (by simpa using hb)] at h; exact h
/-- A formula that is accepted. -/
structure FG (f : GFormula) : Prop where
  v0 : 0 ≤ f.Vars
  v24 : f.Vars ≤ 24
  n128 : f.Nodes.length ≤ 128
  node : ∀ i, i < f.Nodes.length → nodeE f i = 0
  top0 : 0 ≤ f.Top
  top : f.Top < f.Vars + f.Nodes.length
theorem chk_ok {f : GFormula} : chkM f = 0 ↔ FG f := by
  unfold chkM
  constructor
  · intro h
    split at h
    · cases h
    split at h
    · cases h
    split at h
    · rename_i h3; exact absurd h h3
    split at h
    · cases h
    rename_i h1 h2 h3 h4
    rw [Decidable.not_not] at h3
    have h5 := firstE_zero.1 h3
    simp only [validB, Bool.not_eq_false, decide_eq_true_eq] at h4
    exact ⟨by omega, by omega, by omega, h5, by omega, by omega⟩
  · intro h
    rw [if_neg (by have := h.v0; have := h.v24; omega), if_neg (by have := h.n128; omega), if_neg (fun hh => hh (firstE_zero.2 h.node)), if_neg]
    have := h.v0; have := h.top0; have := h.top
    simp only [validB, Bool.not_eq_false, decide_eq_true_eq]
    omega
/-- A node that is accepted. -/
structure NG (f : GFormula) (i : Nat) : Prop where
  k0 : 0 ≤ (at' f.Nodes (i : Int)).Kind
  k5 : (at' f.Nodes (i : Int)).Kind ≤ 5
  len : (at' f.Nodes (i : Int)).Args.length ≤ 16
  arg : ∀ j : Nat, j < (at' f.Nodes (i : Int)).Args.length → 0 ≤ at' (at' f.Nodes (i : Int)).Args (j : Int) ∧ at' (at' f.Nodes (i : Int)).Args (j : Int) < f.Vars + i
  args : argsB (at' f.Nodes (i : Int)).Kind (at' f.Nodes (i : Int)).Args.length = true
theorem nodeE_ok {f : GFormula} {i : Nat} (h : nodeE f i = 0) : NG f i := by
  unfold nodeE at h
  split at h
  · cases h
  split at h
  · cases h
  split at h
  · cases h
  rename_i h1 h2 h3
  refine ⟨by omega, by omega, argsB_le (by simpa using h2), fun j hj => ?_, by simpa using h2⟩
  rw [not_exists] at h3
  have := h3 j
  simp only [hj, true_and, not_or] at this
  omega
end Go.Gg
namespace Go.Gg

theorem and_one64' {y : Int} (h0 : 0 ≤ y) (h1 : y < 4294967296) : bits .and .i64 y 1 = y % 2 := by
  obtain ⟨m, rfl⟩ := Int.eq_ofNat_of_zero_le h0
  show IntKind.i64.wrap (((BitVec.ofInt 64 (m : Int)) &&& (BitVec.ofInt 64 1)).toNat : Int) = _
  rw [BitVec.toNat_and, BitVec.toNat_ofInt, BitVec.toNat_ofInt]
  have e1 : ((m : Int) % ((2 ^ 64 : Nat) : Int)).toNat = m := by omega
  have e2 : ((1 : Int) % ((2 ^ 64 : Nat) : Int)).toNat = 1 := by omega
  rw [e1, e2, Nat.and_one_is_mod]
  have e3 : m % 2 = 0 ∨ m % 2 = 1 := by omega
  have e4 : (m : Int) % 2 = ((m % 2 : Nat) : Int) := by omega
  rw [e4]
  rcases e3 with e | e <;> rw [e] <;> rfl
/-- Event i is in the set s. -/
def inS (s i : Nat) : Bool := decide (s / 2 ^ i % 2 = 1)
theorem bit_in {s k : Nat} (hx : s < 4294967296) : (bits .and .i64 ((s : Int) / 2 ^ (Int.toNat (k : Int))) 1 == 1) = inS s k := by
  have e : ((s : Int) / 2 ^ (Int.toNat (k : Int))) = ((s / 2 ^ k : Nat) : Int) := by rw [Int.toNat_natCast]; simp
  have := Nat.div_le_self s (2 ^ k)
  unfold inS
  rw [e]
  generalize s / 2 ^ k = z at this
  rw [and_one64' (by omega) (by omega), Bool.eq_iff_iff]
  simp only [beq_iff_eq, decide_eq_true_eq]
  omega
/-- How many of the first j arguments are true. -/
def cnt (x : GNode) (v : List Bool) : Nat → Nat
  | 0 => 0
  | j + 1 => cnt x v j + (if at' v (at' x.Args (j : Int)) = true then 1 else 0)
def kindV (x : GNode) (n : Nat) : Bool :=
  if x.Kind = 0 then x.K == 1 else if x.Kind = 1 then (n : Int) == 0 else if x.Kind = 2 then (n : Int) == (x.Args.length : Int) else if x.Kind = 3 then decide ((0 : Int) < n)
  else if x.Kind = 4 then decide (x.K ≤ n) else Int.tmod n 2 == 1
def nodeV (x : GNode) (v : List Bool) : Bool := kindV x (cnt x v x.Args.length)
def vals (f : GFormula) (s : Nat) : Nat → List Bool
  | 0 => (List.range f.Vars.toNat).map (inS s)
  | i + 1 => vals f s i ++ [nodeV (at' f.Nodes (i : Int)) (vals f s i)]
/-- The value of a formula for a set. -/
def FV (f : GFormula) (s : Nat) : Bool := at' (vals f s f.Nodes.length) f.Top
theorem vals_len {f : GFormula} {s : Nat} : ∀ i, (vals f s i).length = f.Vars.toNat + i
  | 0 => by simp [vals]
  | i + 1 => by rw [vals, List.length_append, vals_len i]; simp; omega
theorem at_app_left {α : Type} [Inhabited α] {l m : List α} {i : Int} (h0 : 0 ≤ i) (h : i < l.length) : at' (l ++ m) i = at' l i := by
  obtain ⟨k, rfl⟩ := Int.eq_ofNat_of_zero_le h0
  have : k < l.length := by omega
  simp [at', List.getD_eq_getElem?_getD, List.getElem?_append, this]
theorem at_app_mid {α : Type} [Inhabited α] {l : List α} {x : α} : at' (l ++ [x]) (l.length : Int) = x := by
  simp [at', List.getD_eq_getElem?_getD]
theorem vals_pre {f : GFormula} {s m : Nat} {a : Int} (h0 : 0 ≤ a) (h : a < f.Vars.toNat + m) : ∀ n, m ≤ n → at' (vals f s n) a = at' (vals f s m) a
  | 0, hn => by obtain rfl : m = 0 := by omega
                rfl
  | n + 1, hn => by
    rcases Nat.lt_or_ge n m with h1 | h1
    · obtain rfl : m = n + 1 := by omega
      rfl
    · rw [vals, at_app_left h0 (by rw [vals_len]; omega), vals_pre h0 h n h1]
theorem cnt_le {x : GNode} {v : List Bool} : ∀ j, cnt x v j ≤ j
  | 0 => Nat.le_refl _
  | j + 1 => by have := cnt_le (x := x) (v := v) j; rw [cnt]; split <;> omega
theorem at_set {α : Type} [Inhabited α] {l : List α} {i : Nat} {x : α} {j : Nat} (h : i < l.length) : at' (set' l (i : Int) x) (j : Int) = if j = i then x else at' l (j : Int) := by
  simp only [at', set', Int.toNat_natCast, List.getD_eq_getElem?_getD, List.getElem?_set]
  by_cases hij : i = j
  · subst hij; simp [h]
  · rw [if_neg hij, if_neg (fun e => hij e.symm)]
theorem set_len {α : Type} {l : List α} {i : Int} {x : α} : (set' l i x).length = l.length := by simp [set']
theorem formula_values_s {f : GFormula} {s : Nat} {Q : List Bool → Prop} (g : FG f) (hs : s < 4294967296) (h : Q (vals f s f.Nodes.length)) : formula_values_W f s Q := by
  have v0 := g.v0
  have v24 := g.v24
  have n128 := g.n128
  refine ⟨by unfold rng; omega, ⟨by omega, by omega, by omega, by omega⟩, ?_⟩
  refine loopInv (n := f.Vars.toNat) (fun i y => y.1 = (i : Int) ∧ y.2.length = f.Vars.toNat ∧ ∀ j, j < i → at' y.2 (j : Int) = inS s j) (fun y => y.1) 0 (fun i y hy => by rw [hy.1]; omega) ⟨rfl, by simp [rep'], fun j hj => absurd hj (by omega)⟩ ?_ ?_
  · rintro i ⟨x, v⟩ next hi ⟨rfl, hl, hI⟩ hn
    dsimp only at hl hI
    refine condT (fun hc => ⟨⟨by omega, by omega⟩, ⟨by omega, by omega⟩, by unfold rng; omega, hn _ ⟨rfl, by rw [set_len]; exact hl, fun j hj => ?_⟩⟩) (fun hc => absurd (show (i : Int) < (f.Vars.toNat : Int) by omega) hc)
    dsimp only
    rw [at_set (by omega)]
    by_cases hji : j = i
    · rw [if_pos hji, bit_in hs, hji]
    · rw [if_neg hji]; exact hI j (by omega)
  · rintro ⟨x, v⟩ next ⟨rfl, hl, hI⟩
    dsimp only at hl hI
    refine condT (fun hc => absurd hc (by omega)) (fun _ => ?_)
    have hv : v = vals f s 0 := by
      refine eq_by (by rw [vals_len]; omega) fun j hj => ?_
      rw [hI j (by omega)]
      show _ = at' ((List.range f.Vars.toNat).map (inS s)) (j : Int)
      simp [at', List.getD_eq_getElem?_getD, show j < f.Vars.toNat by omega]
    rw [hv]
    refine loopUp (n := f.Nodes.length) (fun i => ((i : Int), vals f s i)) (fun y => y.1) 0 (fun i => by omega) rfl ?_ ?_
    · intro i next hi hn
      have N := nodeE_ok (g.node i hi)
      have hlen := N.len
      refine condT (fun hc => ⟨⟨by omega, by omega⟩, ?_⟩) (fun hc => absurd (show (i : Int) < (f.Nodes.length : Int) by omega) hc)
      refine loopUp (n := (at' f.Nodes (i : Int)).Args.length) (fun j => ((cnt (at' f.Nodes (i : Int)) (vals f s i) j : Int), (j : Int))) (fun y => y.2) 0 (fun j => by omega) rfl ?_ ?_
      · intro j next2 hj hn2
        have ha := N.arg j hj
        have hcl := cnt_le (x := at' f.Nodes (i : Int)) (v := vals f s i) j
        refine condT (fun hc => ⟨⟨by omega, by omega⟩, ⟨ha.1, by rw [vals_len]; omega⟩, condB (fun hb => ⟨by unfold rng; omega, by unfold rng; omega, ?_⟩) (fun hb => ⟨by unfold rng; omega, ?_⟩)⟩) (fun hc => absurd (show (j : Int) < ((at' f.Nodes (i : Int)).Args.length : Int) by omega) hc)
        · rw [cnt, if_pos hb] at hn2; exact hn2
        · rw [cnt, if_neg (by rw [hb]; simp)] at hn2; exact hn2
      · intro next2
        refine condT (fun hc => absurd hc (by omega)) (fun _ => ?_)
        refine ⟨fun y => y = nodeV (at' f.Nodes (i : Int)) (vals f s i), ?_, ?_⟩
        · have k5 := N.k5
          have k0 := N.k0
          unfold nodeV kindV
          refine condE (fun h0 => by rw [if_pos h0]) (fun h0 => condE (fun h1 => by rw [if_neg h0, if_pos h1]) (fun h1 => condE (fun h2 => by rw [if_neg h0, if_neg h1, if_pos h2]) (fun h2 => condE (fun h3 => by rw [if_neg h0, if_neg h1, if_neg h2, if_pos h3]) (fun h3 => condE (fun h4 => by rw [if_neg h0, if_neg h1, if_neg h2, if_neg h3, if_pos h4]) (fun h4 => condE (fun h5 => by rw [if_neg h0, if_neg h1, if_neg h2, if_neg h3, if_neg h4]) (fun h5 => ?_))))))
          exact absurd (show (at' f.Nodes (i : Int)).Kind = 0 ∨ (at' f.Nodes (i : Int)).Kind = 1 ∨ (at' f.Nodes (i : Int)).Kind = 2 ∨ (at' f.Nodes (i : Int)).Kind = 3 ∨ (at' f.Nodes (i : Int)).Kind = 4 ∨ (at' f.Nodes (i : Int)).Kind = 5 by omega) (by
            rintro (hh | hh | hh | hh | hh | hh)
            · exact h0 hh
            · exact h1 hh
            · exact h2 hh
            · exact h3 hh
            · exact h4 hh
            · exact h5 hh)
        · rintro _ rfl
          refine ⟨?_, by unfold rng; omega, hn⟩
          rw [List.length_append, vals_len, List.length_singleton]
          omega
    · intro next
      exact condT (fun hc => absurd hc (by omega)) (fun _ => h)
theorem pow24 {n : Nat} (h : n ≤ 24) : 2 ^ n ≤ 16777216 := Nat.le_trans (Nat.pow_le_pow_right (by omega) h) (by decide)
/-- The error of a formula and a set. -/
def chk2 (f : GFormula) (s : Int) : Int := if chkM f ≠ 0 then chkM f else if s < 0 ∨ (2 ^ f.Vars.toNat : Int) ≤ s then 3 else 0
theorem formula_check_s {f : GFormula} {s : Int} {Q : Option Int → Prop} (ht : rng f.Top) (h : Q (errO (chk2 f s))) : formula_check_W f s Q := by
  unfold chk2 at h
  refine formula_Check_s ht ?_
  rw [isSome_errO]
  refine condT (fun hc => ?_) (fun hc => ?_)
  · rw [if_pos hc] at h; exact h
  rw [if_neg hc] at h
  have g := chk_ok.1 (Decidable.not_not.1 hc)
  have v0 := g.v0
  have v24 := g.v24
  refine ⟨fun y => y = decide (s < 0 ∨ (2 ^ f.Vars.toNat : Int) ≤ s), ?_, ?_⟩
  · refine condT (fun hc => (decide_eq_true (Or.inl hc)).symm) (fun hc => ⟨⟨⟨by omega, by omega⟩, ?_⟩, ?_⟩)
    · have := pow24 (n := f.Vars.toNat) (by omega)
      have e : (2 ^ f.Vars.toNat : Int) = ((2 ^ f.Vars.toNat : Nat) : Int) := by simp
      rw [Int.one_mul, e]
      generalize 2 ^ f.Vars.toNat = z at this
      unfold rng; omega
    · rw [Int.one_mul]
      exact decide_eq_decide.2 ⟨Or.inr, fun hh => hh.resolve_left hc⟩
  · rintro _ rfl
    refine condT (fun hc2 => ?_) (fun hc2 => ?_)
    · rw [if_pos hc2] at h; exact h
    · rw [if_neg hc2] at h; exact h
theorem formula_Value_s {f : GFormula} {s : Int} {Q : Bool → Option Int → Prop} (ht : rng f.Top) (h1 : chk2 f s ≠ 0 → Q false (some (chk2 f s))) (h2 : chk2 f s = 0 → Q (FV f s.toNat) none) : formula_Value_W f s Q := by
  refine formula_check_s ht ?_
  rw [isSome_errO]
  refine condT (fun hc => ?_) (fun hc => ?_)
  · rw [show errO (chk2 f s) = some (chk2 f s) from if_neg hc]; exact h1 hc
  · have h3 := h2 (Decidable.not_not.1 hc)
    unfold chk2 at hc
    by_cases hm : chkM f ≠ 0
    · rw [if_pos hm] at hc; exact absurd hm hc
    rw [if_neg hm] at hc
    have g := chk_ok.1 (Decidable.not_not.1 hm)
    have v0 := g.v0
    have v24 := g.v24
    have hs : 0 ≤ s ∧ s < (2 ^ f.Vars.toNat : Int) := by
      by_cases hh : s < 0 ∨ (2 ^ f.Vars.toNat : Int) ≤ s
      · rw [if_pos hh] at hc; exact absurd (by decide) hc
      · rw [not_or] at hh; exact ⟨by omega, by omega⟩
    obtain ⟨k, rfl⟩ := Int.eq_ofNat_of_zero_le hs.1
    have hp := pow24 (n := f.Vars.toNat) (by omega)
    have hk : k < 2 ^ f.Vars.toNat := by
      have := hs.2
      exact_mod_cast this
    refine ⟨_, formula_values_s g (by omega) rfl, ⟨⟨g.top0, by rw [vals_len]; have := g.top; omega⟩, h3⟩⟩
end Go.Gg
namespace Go.Gg

theorem cnt_congr {x : GNode} {v w : List Bool} : ∀ j, (∀ k : Nat, k < j → at' v (at' x.Args (k : Int)) = at' w (at' x.Args (k : Int))) → cnt x v j = cnt x w j
  | 0, _ => rfl
  | j + 1, h => by rw [cnt, cnt, cnt_congr j (fun k hk => h k (by omega)), h j (by omega)]
/-- The values of all nodes. -/
def nodesV (f : GFormula) (s : Nat) : List Bool := (List.range f.Nodes.length).map fun k : Nat => at' (vals f s f.Nodes.length) (f.Vars + (k : Int))
theorem nodesV_at {f : GFormula} {s k : Nat} (h : k < f.Nodes.length) : at' (nodesV f s) (k : Int) = at' (vals f s f.Nodes.length) (f.Vars + k) := by
  unfold nodesV
  simp [at', List.getD_eq_getElem?_getD, h]
theorem vals_node {f : GFormula} {s i : Nat} (v0 : 0 ≤ f.Vars) (h : i < f.Nodes.length) : at' (vals f s f.Nodes.length) (f.Vars + i) = nodeV (at' f.Nodes (i : Int)) (vals f s i) := by
  rw [vals_pre (m := i + 1) (by omega) (by omega) _ (by omega), vals]
  have e : f.Vars + (i : Int) = ((vals f s i).length : Int) := by rw [vals_len]; omega
  rw [e, at_app_mid]
theorem vals_bit {f : GFormula} {s : Nat} {a : Int} (h0 : 0 ≤ a) (h : a < f.Vars) (n : Nat) : at' (vals f s n) a = inS s a.toNat := by
  rw [vals_pre (m := 0) h0 (by omega) n (by omega)]
  obtain ⟨k, rfl⟩ := Int.eq_ofNat_of_zero_le h0
  show at' ((List.range f.Vars.toNat).map (inS s)) (k : Int) = _
  simp [at', List.getD_eq_getElem?_getD, show k < f.Vars.toNat by omega]
theorem ref08_Of_r {f : GFormula} {s i : Nat} {l : List Bool} {a : Int} {Q : List Bool → Bool → Prop} (g : FG f) (hs : s < 4294967296) (hi : i ≤ f.Nodes.length) (hl : l.length = f.Nodes.length) (hI : ∀ k : Nat, k < i → at' l (k : Int) = at' (vals f s f.Nodes.length) (f.Vars + k))
    (ha : 0 ≤ a ∧ a < f.Vars + i) (h : Q l (at' (vals f s f.Nodes.length) a)) : ref08_Of__r1_W f l 0 l.length s a Q := by
  have v0 := g.v0
  have v24 := g.v24
  have n128 := g.n128
  refine condT (fun hc => ⟨⟨by omega, by omega⟩, ?_⟩) (fun hc => ⟨by unfold rng; omega, ⟨by omega, by omega⟩, by omega, ?_⟩)
  · obtain ⟨k, rfl⟩ := Int.eq_ofNat_of_zero_le ha.1
    rw [vals_bit ha.1 hc] at h
    rw [bit_in hs]
    exact h
  · have e : (((0 : Nat) : Int) + (a - f.Vars)) = ((a - f.Vars).toNat : Int) := by omega
    rw [e, hI _ (by omega)]
    have e2 : f.Vars + ((a - f.Vars).toNat : Int) = a := by omega
    rw [e2]; exact h
theorem ref08_Of_s {f : GFormula} {s : Nat} {a : Int} {Q : Bool → Prop} (g : FG f) (hs : s < 4294967296) (ha : 0 ≤ a ∧ a < f.Vars + f.Nodes.length) (h : Q (at' (vals f s f.Nodes.length) a)) : ref08_Of_W f (nodesV f s) s a Q := by
  have v0 := g.v0
  have v24 := g.v24
  have n128 := g.n128
  have hl : (nodesV f s).length = f.Nodes.length := by simp [nodesV]
  refine condT (fun hc => ⟨⟨by omega, by omega⟩, ?_⟩) (fun hc => ⟨by unfold rng; omega, ⟨by omega, by omega⟩, ?_⟩)
  · obtain ⟨k, rfl⟩ := Int.eq_ofNat_of_zero_le ha.1
    rw [vals_bit ha.1 hc] at h
    rw [bit_in hs]
    exact h
  · have e : a - f.Vars = ((a - f.Vars).toNat : Int) := by omega
    rw [e, nodesV_at (by omega)]
    have e2 : f.Vars + ((a - f.Vars).toNat : Int) = a := by omega
    rw [e2]; exact h
theorem ref08_Values_s {f : GFormula} {s : Nat} {Q : List Bool → Prop} (g : FG f) (hs : s < 4294967296) (h : Q (nodesV f s)) : ref08_Values_W f s Q := by
  have v0 := g.v0
  have v24 := g.v24
  have n128 := g.n128
  refine ⟨⟨by omega, by omega, by omega, by omega⟩, ?_⟩
  refine loopInv (n := f.Nodes.length) (fun i y => y.1 = (i : Int) ∧ y.2.length = f.Nodes.length ∧ ∀ k : Nat, k < i → at' y.2 (k : Int) = at' (vals f s f.Nodes.length) (f.Vars + k)) (fun y => y.1) 0 (fun i y hy => by rw [hy.1]; omega) ⟨rfl, by simp [rep'], fun k hk => absurd hk (by omega)⟩ ?_ ?_
  · rintro i ⟨x, l⟩ next hi ⟨rfl, hl, hI⟩ hn
    dsimp only at hl hI
    have N := nodeE_ok (g.node i hi)
    have hlen := N.len
    have hset : ∀ b, b = nodeV (at' f.Nodes (i : Int)) (vals f s i) → (((0 : Int) ≤ (i : Int) ∧ (i : Int) < (l.length : Int)) ∧ rng ((i : Int) + 1) ∧ next (((i : Int) + 1), set' l (i : Int) b)) := by
      rintro b rfl
      refine ⟨⟨by omega, by omega⟩, by unfold rng; omega, hn _ ⟨rfl, by rw [set_len]; exact hl, fun k hk => ?_⟩⟩
      dsimp only
      rw [at_set (by omega)]
      by_cases hki : k = i
      · rw [if_pos hki, hki, vals_node v0 hi]
      · rw [if_neg hki]; exact hI k (by omega)
    refine condT (fun hc => ⟨⟨by omega, by omega⟩, ?_⟩) (fun hc => absurd (show (i : Int) < (f.Nodes.length : Int) by omega) hc)
    have hcc : ∀ j, j ≤ (at' f.Nodes (i : Int)).Args.length → cnt (at' f.Nodes (i : Int)) (vals f s f.Nodes.length) j = cnt (at' f.Nodes (i : Int)) (vals f s i) j := fun j hj => cnt_congr j fun k hk => by
      have ha := N.arg k (by omega)
      exact vals_pre ha.1 (by omega) _ (by omega)
    refine loopUp (n := (at' f.Nodes (i : Int)).Args.length) (fun j => ((cnt (at' f.Nodes (i : Int)) (vals f s f.Nodes.length) j : Int), (j : Int), l)) (fun y => y.2.1) 0 (fun j => by dsimp only; omega) rfl ?_ ?_
    · intro j next2 hj hn2
      have ha := N.arg j hj
      have hcl := cnt_le (x := at' f.Nodes (i : Int)) (v := vals f s f.Nodes.length) j
      refine condT (fun hc => ⟨⟨by omega, by omega⟩, ref08_Of_r g hs (by omega) hl hI ha ⟨rfl, condB (fun hb => ⟨by unfold rng; omega, by unfold rng; omega, ?_⟩) (fun hb => ⟨by unfold rng; omega, ?_⟩)⟩⟩) (fun hc => absurd (show (j : Int) < ((at' f.Nodes (i : Int)).Args.length : Int) by omega) hc)
      · rw [cnt, if_pos hb] at hn2; exact hn2
      · rw [cnt, if_neg (by rw [hb]; simp)] at hn2; exact hn2
    · intro next2
      refine condT (fun hc => absurd hc (by omega)) (fun _ => ?_)
      have k5 := N.k5
      have k0 := N.k0
      have hc := hcc _ (Nat.le_refl _)
      rw [hc]
      unfold nodeV kindV at hset
      exact condE (fun h0 => hset _ (by rw [if_pos h0])) (fun h0 => condE (fun h1 => hset _ (by rw [if_neg h0, if_pos h1])) (fun h1 => condE (fun h2 => hset _ (by rw [if_neg h0, if_neg h1, if_pos h2])) (fun h2 => condE (fun h3 => hset _ (by rw [if_neg h0, if_neg h1, if_neg h2, if_pos h3])) (fun h3 => condE (fun h4 => hset _ (by rw [if_neg h0, if_neg h1, if_neg h2, if_neg h3, if_pos h4])) (fun h4 => hset _ (by rw [if_neg h0, if_neg h1, if_neg h2, if_neg h3, if_neg h4]))))))
  · rintro ⟨x, l⟩ next ⟨rfl, hl, hI⟩
    dsimp only at hl hI
    refine condT (fun hc => absurd hc (by omega)) (fun _ => ?_)
    have : l = nodesV f s := eq_by (by simp [nodesV, hl]) fun k hk => by rw [hI k (by omega), nodesV_at (by omega)]
    rw [this]; exact h
theorem ref08_Value_s {f : GFormula} {s : Nat} {Q : Bool → Prop} (g : FG f) (hs : s < 4294967296) (h : Q (FV f s)) : ref08_Value_W f s Q :=
  ⟨_, ref08_Values_s g hs rfl, _, ref08_Of_s g hs ⟨g.top0, g.top⟩ rfl, h⟩
end Go.Gg
