/- What the functions on natural numbers compute, told of their formulas: part A. Conditions: none. -/
import Derived.Test.YtiamkdpljeemkaaGc
import Derived.Test.YtiamkdpljeemkaaWa
import Derived.Test.YtiamkdpljeemkaaGd
/- What the functions on natural numbers compute, told of their formulas: part A. Conditions: none. -/
namespace Go.Gg
theorem set_nat {α : Type} (l : List α) (i : Nat) (x : α) : set' l (i : Int) x = l.set i x := rfl
theorem letIn {α : Type} {e : α} {k : α → Prop} (h : k e) : setW e k := fun _ hv => hv ▸ h
theorem condT {c : Prop} [Decidable c] {a b : Prop} (h1 : c → a) (h2 : ¬ c → b) : condW (decide c) a b := ⟨fun h => h1 (of_decide_eq_true h), fun h => h2 (of_decide_eq_false h)⟩
theorem condE {α : Type} [DecidableEq α] {x y : α} {a b : Prop} (h1 : x = y → a) (h2 : x ≠ y → b) : condW (x == y) a b := ⟨fun h => h1 (by simpa using h), fun h => h2 (by simpa using h)⟩
theorem condN {α : Type} [DecidableEq α] {x y : α} {a b : Prop} (h1 : x ≠ y → a) (h2 : x = y → b) : condW (x != y) a b := ⟨fun h => h1 (by simpa using h), fun h => h2 (by simpa using h)⟩
abbrev SM (l : List Int) : Prop := l.length ≤ 1099511627776
end Go.Gg
namespace Go.Gg
/-- A loop that counts up to n. -/
theorem loopInv {σ : Type} {n : Nat} (J : Nat → σ → Prop) (ix : σ → Int) (c : Int) (hix : ∀ i y, J i y → ix y = i + c) {x0 : σ} {body : σ → (σ → Prop) → Prop} (h0 : J 0 x0)
    (hs : ∀ i y (next : σ → Prop), i < n → J i y → (∀ z, J (i + 1) z → next z) → body y next) (he : ∀ y (next : σ → Prop), J n y → body y next) : loopW x0 body := by
  refine ⟨fun y => ∃ i, i ≤ n ∧ J i y, fun y => n - (ix y - c).toNat, ⟨0, Nat.zero_le _, h0⟩, ?_⟩
  rintro y ⟨i, hi, hJ⟩
  rcases Nat.lt_or_ge i n with h | h
  · refine hs i y _ h hJ fun z hz => ⟨⟨i + 1, h, hz⟩, ?_⟩
    have h1 := hix i y hJ
    have h2 := hix (i + 1) z hz
    dsimp only
    rw [h1, h2]
    omega
  · obtain rfl : i = n := by omega
    exact he y _ hJ
/-- A loop over a known sequence of states. -/
theorem loopUp {σ : Type} {n : Nat} (f : Nat → σ) (ix : σ → Int) (c : Int) (hix : ∀ i, ix (f i) = i + c) {x0 : σ} {body : σ → (σ → Prop) → Prop} (h0 : x0 = f 0)
    (hs : ∀ i (next : σ → Prop), i < n → next (f (i + 1)) → body (f i) next) (he : ∀ (next : σ → Prop), body (f n) next) : loopW x0 body :=
  loopInv (fun i y => y = f i) ix c (fun i y h => by rw [h]; exact hix i) h0 (fun i y next hi hy hn => hy ▸ hs i next hi (hn _ rfl)) (fun y next hy => hy ▸ he next)
/-- A search. -/
theorem scanW {n : Nat} (P : Nat → Prop) {E : Prop} {st : Int → (Int → Prop) → Prop} (hn : n ≤ 9223372036854775807)
    (hs : ∀ (i : Nat) (next : Int → Prop), i < n → (∀ j, j < i → ¬ P j) → (¬ P i → rng ((i : Int) + 1) ∧ next ((i : Int) + 1)) → st (i : Int) next)
    (he : (∀ j, j < n → ¬ P j) → E) : loopW (σ := Int) 0 (fun x next => condW (decide (x < (n : Int))) (st x next) E) := by
  refine loopInv (n := n) (fun i y => y = (i : Int) ∧ ∀ j, j < i → ¬ P j) (fun y => y) 0 (fun i y h => by rw [h.1, Int.add_zero]) ⟨rfl, fun j hj => absurd hj (by omega)⟩ ?_ ?_
  · rintro i _ next hi ⟨rfl, hI⟩ hn2
    refine condT (fun hc => hs i next hi hI fun hP => ⟨by unfold rng; omega, hn2 _ ⟨by omega, fun j hj => ?_⟩⟩) (fun hc => absurd (show (i : Int) < n by omega) hc)
    rcases Nat.lt_or_ge j i with h1 | h1
    · exact hI j h1
    · obtain rfl : j = i := by omega
      exact hP
  · rintro _ next ⟨rfl, hI⟩
    exact condT (fun hc => absurd hc (by omega)) (fun _ => he hI)
/-- The first number that is not 0. -/
def firstE (g : Nat → Int) : Nat → Int
  | 0 => 0
  | n + 1 => if firstE g n = 0 then g n else firstE g n
theorem firstE_zero {g : Nat → Int} : ∀ {n : Nat}, firstE g n = 0 ↔ ∀ i, i < n → g i = 0
  | 0 => ⟨fun _ i hi => absurd hi (by omega), fun _ => rfl⟩
  | n + 1 => by
    rw [firstE]
    constructor
    · intro h i hi
      split at h
      · rename_i h1
        rcases Nat.lt_or_ge i n with h2 | h2
        · exact firstE_zero.1 h1 i h2
        · obtain rfl : i = n := by omega
          exact h
      · rename_i h1; exact absurd h h1
    · intro h
      rw [if_pos (firstE_zero.2 fun i hi => h i (by omega))]
      exact h n (by omega)
theorem firstE_hit {g : Nat → Int} {i : Nat} (h : ∀ j, j < i → g j = 0) (hg : g i ≠ 0) : ∀ n, i < n → firstE g n = g i
  | 0, hn => absurd hn (by omega)
  | n + 1, hn => by
    rw [firstE]
    rcases Nat.lt_or_ge i n with h1 | h1
    · rw [firstE_hit h hg n h1, if_neg hg]
    · obtain rfl : i = n := by omega
      rw [if_pos (firstE_zero.2 h)]
end Go.Gg
/- Small things: lists, errors, comparisons of the laws. Conditions: none. -/
namespace Go.Gg
theorem condB {b : Bool} {p q : Prop} (h1 : b = true → p) (h2 : b = false → q) : condW b p q := ⟨h1, h2⟩
theorem eq_by {α : Type} [Inhabited α] {l m : List α} (hl : l.length = m.length) (h : ∀ i : Nat, i < l.length → at' l (i : Int) = at' m (i : Int)) : l = m := by
  refine List.ext_getElem hl fun i h1 h2 => ?_
  have := h i h1
  simp only [at', Int.toNat_natCast, List.getD_eq_getElem?_getD, List.getElem?_eq_getElem h1, List.getElem?_eq_getElem h2, Option.getD_some] at this
  exact this
/-- An error's number as the program's error. -/
def errO (e : Int) : Option Int := if e = 0 then none else some e
end Go.Gg
/- Decision diagrams: the functions of their references, and that a reduced ordered list of nodes has each function once. Conditions: none. -/
namespace Go.Gg
abbrev Asg := Nat → Bool
def setA (σ : Asg) (v : Nat) (b : Bool) : Asg := fun i => if i = v then b else σ i
theorem setA_same {σ : Asg} {v : Nat} {b : Bool} : setA σ v b v = b := by simp [setA]
theorem setA_ne {σ : Asg} {v i : Nat} {b : Bool} (h : i ≠ v) : setA σ v b i = σ i := by simp [setA, h]
theorem setA_id {σ : Asg} {v : Nat} : setA σ v (σ v) = σ := by
  funext i
  by_cases h : i = v
  · subst h; exact setA_same
  · exact setA_ne h
theorem snocInd {α : Type} {P : List α → Prop} (h0 : P []) (h1 : ∀ l x, P l → P (l ++ [x])) (l : List α) : P l := by
  have h : ∀ m : List α, P m.reverse := by
    intro m
    induction m with
    | nil => exact h0
    | cons x m ih => rw [List.reverse_cons]; exact h1 _ _ ih
  have := h l.reverse
  rwa [List.reverse_reverse] at this
/-- The values of all references in a state, those of the constants first. -/
def dvals (N : List GDNode) (σ : Asg) : List Bool := N.foldl (fun acc x => acc ++ [bif σ x.Var.toNat then acc.getD x.Hi.toNat false else acc.getD x.Lo.toNat false]) [false, true]
def den (N : List GDNode) (σ : Asg) (r : Nat) : Bool := (dvals N σ).getD r false
theorem dvals_snoc {N : List GDNode} {x : GDNode} {σ : Asg} : dvals (N ++ [x]) σ = dvals N σ ++ [bif σ x.Var.toNat then den N σ x.Hi.toNat else den N σ x.Lo.toNat] := by
  simp [dvals, den, List.foldl_append]
theorem dvals_len {σ : Asg} (N : List GDNode) : (dvals N σ).length = 2 + N.length := by
  induction N using snocInd with
  | h0 => rfl
  | h1 N x ih => rw [dvals_snoc, List.length_append, ih, List.length_append]; simp; omega
theorem den_snoc {N : List GDNode} {x : GDNode} {σ : Asg} {r : Nat} (h : r < 2 + N.length) : den (N ++ [x]) σ r = den N σ r := by
  unfold den
  rw [dvals_snoc, List.getD_eq_getElem?_getD, List.getD_eq_getElem?_getD, List.getElem?_append_left (by rw [dvals_len]; exact h)]
theorem den_app {σ : Asg} {r : Nat} {N : List GDNode} (M : List GDNode) (h : r < 2 + N.length) : den (N ++ M) σ r = den N σ r := by
  induction M using snocInd with
  | h0 => simp
  | h1 M x ih => rw [← List.append_assoc, den_snoc (by rw [List.length_append]; omega), ih]
theorem den_last {N : List GDNode} {x : GDNode} {σ : Asg} : den (N ++ [x]) σ (2 + N.length) = bif σ x.Var.toNat then den N σ x.Hi.toNat else den N σ x.Lo.toNat := by
  conv => lhs; unfold den
  rw [dvals_snoc, List.getD_eq_getElem?_getD, List.getElem?_append_right (by rw [dvals_len]; omega), dvals_len]
  simp
theorem den_node {N : List GDNode} {i : Nat} {x : GDNode} {σ : Asg} (hx : N[i]? = some x) (hl : x.Lo.toNat < 2 + i) (hh : x.Hi.toNat < 2 + i) : den N σ (2 + i) = bif σ x.Var.toNat then den N σ x.Hi.toNat else den N σ x.Lo.toNat := by
  obtain ⟨hi, rfl⟩ := List.getElem?_eq_some_iff.1 hx
  have hlen : (N.take i).length = i := by simp; omega
  have e : N = (N.take i ++ [N[i]]) ++ N.drop (i + 1) := by simp
  have hd : ∀ r, r < 2 + i → den N σ r = den (N.take i) σ r := fun r hr => by
    conv => lhs; rw [e]
    rw [den_app _ (by rw [List.length_append, hlen]; omega), den_snoc (by rw [hlen]; exact hr)]
  rw [hd _ hl, hd _ hh]
  conv => lhs; rw [e]
  rw [den_app _ (by rw [List.length_append, hlen]; simp)]
  have := den_last (N := N.take i) (x := N[i]) (σ := σ)
  rw [hlen] at this
  exact this
theorem den_zero {N : List GDNode} {σ : Asg} : den N σ 0 = false := by
  have := den_app (σ := σ) (r := 0) (N := []) N (by simp)
  exact this.trans rfl
theorem den_one {N : List GDNode} {σ : Asg} : den N σ 1 = true := by
  have := den_app (σ := σ) (r := 1) (N := []) N (by simp)
  exact this.trans rfl
/-- The level of a reference: constants are behind all events. -/
def lvl (n : Nat) (lev : Nat → Nat) (N : List GDNode) (r : Nat) : Nat := if r < 2 then n else match N[r - 2]? with | some x => lev x.Var.toNat | none => n
theorem lvl_lt {n : Nat} {lev : Nat → Nat} {N : List GDNode} {r : Nat} (h : r < 2) : lvl n lev N r = n := by simp [lvl, h]
theorem lvl_at {n : Nat} {lev : Nat → Nat} {N : List GDNode} {i : Nat} {x : GDNode} (h : N[i]? = some x) : lvl n lev N (2 + i) = lev x.Var.toNat := by
  have : ¬ 2 + i < 2 := by omega
  simp [lvl, this, show 2 + i - 2 = i by omega, h]
theorem lvl_app {n : Nat} {lev : Nat → Nat} {N : List GDNode} (M : List GDNode) {r : Nat} (h : r < 2 + N.length) : lvl n lev (N ++ M) r = lvl n lev N r := by
  unfold lvl
  by_cases h2 : r < 2
  · rw [if_pos h2, if_pos h2]
  · rw [if_neg h2, if_neg h2, List.getElem?_append_left (by omega)]
structure LV (n : Nat) (lev : Nat → Nat) : Prop where
  inj : ∀ i j, i < n → j < n → lev i = lev j → i = j
  lt : ∀ i, i < n → lev i < n
structure Nd (n : Nat) (lev : Nat → Nat) (N : List GDNode) (i : Nat) (x : GDNode) : Prop where
  var : 0 ≤ x.Var ∧ x.Var < n
  lo : 0 ≤ x.Lo ∧ x.Lo < 2 + i
  hi : 0 ≤ x.Hi ∧ x.Hi < 2 + i
  ne : x.Lo ≠ x.Hi
  llo : lev x.Var.toNat < lvl n lev N x.Lo.toNat
  lhi : lev x.Var.toNat < lvl n lev N x.Hi.toNat
/-- Reduced ordered nodes, each once. -/
structure WT (n : Nat) (lev : Nat → Nat) (N : List GDNode) : Prop where
  nd : ∀ (i : Nat) (x : GDNode), N[i]? = some x → Nd n lev N i x
  dis : ∀ (i j : Nat) (x : GDNode), N[i]? = some x → N[j]? = some x → i = j
section
variable {n : Nat} {lev : Nat → Nat} {N : List GDNode}
theorem WT.nil : WT n lev [] := ⟨fun i x h => by simp at h, fun i j x h => by simp at h⟩
/-- What a reference is: a constant, or a node. -/
theorem ref_cases {r : Nat} (h : r < 2 + N.length) : r = 0 ∨ r = 1 ∨ ∃ i x, r = 2 + i ∧ N[i]? = some x := by
  by_cases h0 : r = 0
  · exact .inl h0
  by_cases h1 : r = 1
  · exact .inr (.inl h1)
  · exact .inr (.inr ⟨r - 2, N[r - 2]'(by omega), by omega, List.getElem?_eq_getElem (by omega)⟩)
theorem WT.den_at (h : WT n lev N) {i : Nat} {x : GDNode} (hx : N[i]? = some x) (σ : Asg) : den N σ (2 + i) = bif σ x.Var.toNat then den N σ x.Hi.toNat else den N σ x.Lo.toNat := by
  obtain ⟨_, b, c, _, _, _⟩ := h.nd i x hx
  exact den_node hx (by omega) (by omega)
theorem WT.den_set (h : WT n lev N) {v : Nat} {b : Bool} : ∀ {r : Nat}, r < 2 + N.length → lev v < lvl n lev N r → ∀ σ, den N (setA σ v b) r = den N σ r := by
  intro r
  induction r using Nat.strongRecOn with
  | _ r ih =>
    intro hr hv σ
    rcases ref_cases hr with rfl | rfl | ⟨i, x, rfl, hx⟩
    · rw [den_zero, den_zero]
    · rw [den_one, den_one]
    · obtain ⟨a, b', c, _, e, f⟩ := h.nd i x hx
      have hi := (List.getElem?_eq_some_iff.1 hx).1
      rw [lvl_at hx] at hv
      have hne : x.Var.toNat ≠ v := fun hc => by rw [hc] at hv; omega
      rw [h.den_at hx, h.den_at hx, setA_ne hne, ih x.Hi.toNat (by omega) (by omega) (by omega), ih x.Lo.toNat (by omega) (by omega) (by omega)]
/-- A reference with the event at its level set. -/
theorem WT.den_cof (h : WT n lev N) {i : Nat} {x : GDNode} (hx : N[i]? = some x) (σ : Asg) (b : Bool) : den N (setA σ x.Var.toNat b) (2 + i) = den N σ (bif b then x.Hi.toNat else x.Lo.toNat) := by
  obtain ⟨_, b', c, _, e, f⟩ := h.nd i x hx
  have hi := (List.getElem?_eq_some_iff.1 hx).1
  rw [h.den_at hx, setA_same]
  cases b
  · exact h.den_set (by omega) e σ
  · exact h.den_set (by omega) f σ
/-- Each function has one reference. -/
theorem WT.canon (hL : LV n lev) (h : WT n lev N) {r s : Nat} (hr : r < 2 + N.length) (hs : s < 2 + N.length) (he : ∀ σ, den N σ r = den N σ s) : r = s := by
  have key : ∀ b r s, r < b → s < b → r < 2 + N.length → s < 2 + N.length → (∀ σ, den N σ r = den N σ s) → r = s := by
    intro b
    induction b with
    | zero => intro r s h1; omega
    | succ b ih =>
      -- a node's function is none of those behind its level
      have step : ∀ i x s, N[i]? = some x → 2 + i < b + 1 → s < 2 + N.length → lev x.Var.toNat < lvl n lev N s → (∀ σ, den N σ (2 + i) = den N σ s) → False := by
        intro i x s hx hib hs hl he
        obtain ⟨a, b', c, d, e, f⟩ := h.nd i x hx
        have hi := (List.getElem?_eq_some_iff.1 hx).1
        have : x.Lo.toNat = x.Hi.toNat := ih _ _ (by omega) (by omega) (by omega) (by omega) fun σ => by
          have h1 := h.den_cof hx σ false
          have h2 := h.den_cof hx σ true
          rw [he, h.den_set hs hl] at h1 h2
          exact h1.symm.trans h2
        omega
      intro r s h1 h2 hr hs he
      rcases ref_cases hr with rfl | rfl | ⟨i, x, rfl, hx⟩
      · rcases ref_cases hs with rfl | rfl | ⟨j, y, rfl, hy⟩
        · rfl
        · have := he (fun _ => false); rw [den_zero, den_one] at this; cases this
        · exact (step j y 0 hy h2 hr (by rw [lvl_lt (by omega)]; exact hL.lt _ (by have := (h.nd j y hy).var; omega)) (fun σ => (he σ).symm)).elim
      · rcases ref_cases hs with rfl | rfl | ⟨j, y, rfl, hy⟩
        · have := he (fun _ => false); rw [den_zero, den_one] at this; cases this
        · rfl
        · exact (step j y 1 hy h2 hr (by rw [lvl_lt (by omega)]; exact hL.lt _ (by have := (h.nd j y hy).var; omega)) (fun σ => (he σ).symm)).elim
      · by_cases hl : lev x.Var.toNat < lvl n lev N s
        · exact (step i x s hx h1 hs hl he).elim
        · rcases ref_cases hs with rfl | rfl | ⟨j, y, rfl, hy⟩
          · exact (hl (by rw [lvl_lt (by omega)]; exact hL.lt _ (by have := (h.nd i x hx).var; omega))).elim
          · exact (hl (by rw [lvl_lt (by omega)]; exact hL.lt _ (by have := (h.nd i x hx).var; omega))).elim
          · by_cases hl2 : lev y.Var.toNat < lvl n lev N (2 + i)
            · exact (step j y (2 + i) hy h2 hr hl2 (fun σ => (he σ).symm)).elim
            · rw [lvl_at hx] at hl2
              rw [lvl_at hy] at hl
              obtain ⟨a, b', c, d, e, f⟩ := h.nd i x hx
              obtain ⟨a2, b2, c2, d2, e2, f2⟩ := h.nd j y hy
              have hi := (List.getElem?_eq_some_iff.1 hx).1
              have hj := (List.getElem?_eq_some_iff.1 hy).1
              have hv : x.Var.toNat = y.Var.toNat := hL.inj _ _ (by omega) (by omega) (by omega)
              have q1 : x.Lo.toNat = y.Lo.toNat := ih _ _ (by omega) (by omega) (by omega) (by omega) fun σ => by
                have p1 := h.den_cof hx σ false
                have p2 := h.den_cof hy σ false
                rw [hv, he] at p1
                exact p1.symm.trans p2
              have q2 : x.Hi.toNat = y.Hi.toNat := ih _ _ (by omega) (by omega) (by omega) (by omega) fun σ => by
                have p1 := h.den_cof hx σ true
                have p2 := h.den_cof hy σ true
                rw [hv, he] at p1
                exact p1.symm.trans p2
              have hxy : x = y := by
                cases x; cases y
                simp only [GDNode.mk.injEq]
                simp only at *
                omega
              subst hxy
              rw [h.dis i j x hx hy]
  exact key (max r s + 1) r s (by omega) (by omega) hr hs he
/-- One node more. -/
theorem WT.snoc (h : WT n lev N) {x : GDNode} (hv : 0 ≤ x.Var ∧ x.Var < n) (hlo : 0 ≤ x.Lo ∧ x.Lo < 2 + N.length) (hhi : 0 ≤ x.Hi ∧ x.Hi < 2 + N.length) (hne : x.Lo ≠ x.Hi) (h1 : lev x.Var.toNat < lvl n lev N x.Lo.toNat) (h2 : lev x.Var.toNat < lvl n lev N x.Hi.toNat)
    (hnew : x ∉ N) : WT n lev (N ++ [x]) := by
  refine ⟨fun i y hy => ?_, fun i j y hi hj => ?_⟩
  · rcases Nat.lt_or_ge i N.length with hi | hi
    · rw [List.getElem?_append_left hi] at hy
      obtain ⟨a, b, c, d, e, f⟩ := h.nd i y hy
      exact ⟨a, b, c, d, by rw [lvl_app _ (by omega)]; exact e, by rw [lvl_app _ (by omega)]; exact f⟩
    · have hil : i < (N ++ [x]).length := (List.getElem?_eq_some_iff.1 hy).1
      simp only [List.length_append, List.length_singleton] at hil
      obtain rfl : i = N.length := by omega
      rw [List.getElem?_append_right (Nat.le_refl _)] at hy
      simp at hy
      subst hy
      exact ⟨hv, hlo, hhi, hne, by rw [lvl_app _ (by omega)]; exact h1, by rw [lvl_app _ (by omega)]; exact h2⟩
  · have hil : i < (N ++ [x]).length := (List.getElem?_eq_some_iff.1 hi).1
    have hjl : j < (N ++ [x]).length := (List.getElem?_eq_some_iff.1 hj).1
    simp only [List.length_append, List.length_singleton] at hil hjl
    by_cases hi' : i < N.length
    · rw [List.getElem?_append_left hi'] at hi
      by_cases hj' : j < N.length
      · rw [List.getElem?_append_left hj'] at hj
        exact h.dis i j y hi hj
      · obtain rfl : j = N.length := by omega
        rw [List.getElem?_append_right (Nat.le_refl _)] at hj
        simp at hj
        subst hj
        exact absurd (List.mem_of_getElem? hi) hnew
    · obtain rfl : i = N.length := by omega
      rw [List.getElem?_append_right (Nat.le_refl _)] at hi
      simp at hi
      subst hi
      by_cases hj' : j < N.length
      · rw [List.getElem?_append_left hj'] at hj
        exact absurd (List.mem_of_getElem? hj) hnew
      · omega
end
end Go.Gg
namespace Go.Gg
instance : DecidableEq GDNode := fun a b => decidable_of_iff (a.Var = b.Var ∧ a.Lo = b.Lo ∧ a.Hi = b.Hi) (by cases a; cases b; simp)
/-- A node, or its kid if both kids are the same; once only. -/
def mkD (v lo hi : Nat) (N : List GDNode) : List GDNode × Nat :=
  if lo = hi then (N, lo) else if (⟨v, lo, hi⟩ : GDNode) ∈ N then (N, 2 + N.idxOf ⟨v, lo, hi⟩) else (N ++ [⟨v, lo, hi⟩], 2 + N.length)
def addF : List Nat → (Asg → Bool) → List GDNode → List GDNode × Nat
  | [], f, N => (N, if f (fun _ => false) = true then 1 else 0)
  | v :: vs, f, N => mkD v (addF vs (fun σ => f (setA σ v false)) N).2 (addF vs (fun σ => f (setA σ v true)) (addF vs (fun σ => f (setA σ v false)) N).1).2 (addF vs (fun σ => f (setA σ v true)) (addF vs (fun σ => f (setA σ v false)) N).1).1
/-- The function looks at these events only. -/
def Dep (f : Asg → Bool) (vs : List Nat) : Prop := ∀ σ σ' : Asg, (∀ v ∈ vs, σ v = σ' v) → f σ = f σ'
/-- Events with their levels. -/
structure OrdL (n : Nat) (lev : Nat → Nat) (ord : List Nat) : Prop where
  lv : LV n lev
  len : ord.length = n
  at_ : ∀ i v, ord[i]? = some v → v < n ∧ lev v = i
  of : ∀ v, v < n → ord[lev v]? = some v
theorem OrdL.drop {n : Nat} {lev : Nat → Nat} {ord : List Nat} (h : OrdL n lev ord) {v : Nat} (hv : v < n) : ord.drop (lev v) = v :: ord.drop (lev v + 1) := by
  have h1 := h.of v hv
  obtain ⟨hl, he⟩ := List.getElem?_eq_some_iff.1 h1
  rw [List.drop_eq_getElem_cons hl, he]
theorem OrdL.mem {n : Nat} {lev : Nat → Nat} {ord : List Nat} (h : OrdL n lev ord) {l v : Nat} : v ∈ ord.drop l ↔ v < n ∧ l ≤ lev v := by
  constructor
  · intro hm
    obtain ⟨i, hi⟩ := List.mem_iff_getElem?.1 hm
    rw [List.getElem?_drop] at hi
    obtain ⟨a, b⟩ := h.at_ _ _ hi
    exact ⟨a, by omega⟩
  · rintro ⟨hv, hl⟩
    refine List.mem_iff_getElem?.2 ⟨lev v - l, ?_⟩
    rw [List.getElem?_drop, show l + (lev v - l) = lev v by omega]
    exact h.of v hv
theorem Dep.sub {f : Asg → Bool} {vs ws : List Nat} (h : Dep f vs) (hs : ∀ v ∈ vs, v ∈ ws) : Dep f ws := fun σ σ' hh => h σ σ' fun v hv => hh v (hs v hv)
theorem Dep.set {f : Asg → Bool} {v : Nat} {vs : List Nat} {b : Bool} (h : Dep f (v :: vs)) : Dep (fun σ => f (setA σ v b)) vs := fun σ σ' hh => h _ _ fun w hw => by
  by_cases he : w = v
  · subst he; rw [setA_same, setA_same]
  · rw [setA_ne he, setA_ne he]; exact hh w ((List.mem_cons.1 hw).resolve_left he)
theorem Dep.not {f : Asg → Bool} {v : Nat} {vs : List Nat} (h : Dep f vs) (hv : v ∉ vs) (σ : Asg) (b : Bool) : f (setA σ v b) = f σ := h _ _ fun _w hw => setA_ne (fun he => hv (he ▸ hw))
section
variable {n : Nat} {lev : Nat → Nat} {ord : List Nat} {N : List GDNode}
/-- What a reference looks at. -/
theorem WT.dep (hO : OrdL n lev ord) (h : WT n lev N) {r : Nat} (hr : r < 2 + N.length) : Dep (fun σ => den N σ r) (ord.drop (lvl n lev N r)) := by
  induction r using Nat.strongRecOn with
  | _ r ih =>
    rcases ref_cases hr with rfl | rfl | ⟨i, x, rfl, hx⟩
    · exact fun σ σ' _ => by simp only [den_zero]
    · exact fun σ σ' _ => by simp only [den_one]
    · obtain ⟨a, b, c, d, e, f⟩ := h.nd i x hx
      have hi := (List.getElem?_eq_some_iff.1 hx).1
      intro σ σ' hh
      rw [lvl_at hx] at hh
      simp only [h.den_at hx]
      rw [hh x.Var.toNat (hO.mem.2 ⟨by omega, Nat.le_refl _⟩)]
      have q1 := ih x.Lo.toNat (by omega) (by omega) σ σ' (fun v hv => hh v (hO.mem.2 ⟨(hO.mem.1 hv).1, by have := (hO.mem.1 hv).2; omega⟩))
      have q2 := ih x.Hi.toNat (by omega) (by omega) σ σ' (fun v hv => hh v (hO.mem.2 ⟨(hO.mem.1 hv).1, by have := (hO.mem.1 hv).2; omega⟩))
      simp only at q1 q2
      rw [q1, q2]
theorem WT.top (hO : OrdL n lev ord) (h : WT n lev N) {i : Nat} {x : GDNode} (hx : N[i]? = some x) (hd : ∀ σ b, den N (setA σ x.Var.toNat b) (2 + i) = den N σ (2 + i)) : False := by
  obtain ⟨a, b, c, d, e, f⟩ := h.nd i x hx
  have hi := (List.getElem?_eq_some_iff.1 hx).1
  have := h.canon hO.lv (r := x.Lo.toNat) (s := x.Hi.toNat) (by omega) (by omega) fun σ => by
    have h1 := h.den_cof hx σ false
    have h2 := h.den_cof hx σ true
    rw [hd] at h1 h2
    exact h1.symm.trans h2
  omega
/-- A reference's level, by what its function looks at. -/
theorem WT.lvl_ge (hO : OrdL n lev ord) (h : WT n lev N) {r l : Nat} (hr : r < 2 + N.length) (hl : l ≤ n) (hd : Dep (fun σ => den N σ r) (ord.drop l)) : l ≤ lvl n lev N r := by
  rcases ref_cases hr with rfl | rfl | ⟨i, x, rfl, hx⟩
  · rw [lvl_lt (by omega)]; exact hl
  · rw [lvl_lt (by omega)]; exact hl
  · rw [lvl_at hx]
    rcases Nat.lt_or_ge (lev x.Var.toNat) l with hlt | hge
    · exfalso
      refine h.top hO hx fun σ b => hd.not (fun hm => ?_) σ b
      have := (hO.mem.1 hm).2
      omega
    · exact hge
/-- A function that has a reference is not added. -/
theorem addF_rep (hO : OrdL n lev ord) (h : WT n lev N) : ∀ (k l : Nat), l + k = n → ∀ {f : Asg → Bool} {r : Nat}, Dep f (ord.drop l) → r < 2 + N.length → (∀ σ, den N σ r = f σ) → addF (ord.drop l) f N = (N, r)
  | 0, l, hk, f, r, hd, hr, hf => by
    have e : ord.drop l = [] := List.drop_eq_nil_of_le (by rw [hO.len]; omega)
    rw [e] at hd ⊢
    have hc : ∀ σ, den N σ r = f (fun _ => false) := fun σ => (hf σ).trans (hd _ _ (fun v hv => by simp at hv))
    rw [addF]
    cases hb : f (fun _ => false) with
    | true =>
      rw [if_pos rfl, h.canon hO.lv (r := r) (s := 1) hr (by omega) (fun σ => by rw [hc, hb, den_one])]
    | false =>
      rw [if_neg (by simp), h.canon hO.lv (r := r) (s := 0) hr (by omega) (fun σ => by rw [hc, hb, den_zero])]
  | k + 1, l, hk, f, r, hd, hr, hf => by
    have hl : l < ord.length := by rw [hO.len]; omega
    have hdr : ord.drop l = ord[l] :: ord.drop (l + 1) := List.drop_eq_getElem_cons hl
    generalize hv : ord[l] = v at hdr
    have hat := hO.at_ l v (by rw [List.getElem?_eq_getElem hl, hv])
    rw [hdr] at hd ⊢
    have hdN : Dep (fun σ => den N σ r) (ord.drop l) := by
      rw [hdr]
      exact fun σ σ' hh => by simp only [hf]; exact hd σ σ' hh
    have hge := h.lvl_ge hO hr (by omega) hdN
    rw [addF]
    by_cases hlt : l < lvl n lev N r
    · have hfs : ∀ b σ, den N σ r = f (setA σ v b) := fun b σ => by
        rw [← hf, h.den_set hr (by rw [hat.2]; exact hlt)]
      rw [addF_rep hO h k (l + 1) (by omega) (r := r) hd.set hr (hfs false), addF_rep hO h k (l + 1) (by omega) (r := r) hd.set hr (hfs true)]
      simp [mkD]
    · have hle : lvl n lev N r = l := by omega
      rcases ref_cases hr with rfl | rfl | ⟨i, x, rfl, hx⟩
      · rw [lvl_lt (by omega)] at hle; omega
      · rw [lvl_lt (by omega)] at hle; omega
      · obtain ⟨a, b, c, d, e, f'⟩ := h.nd i x hx
        have hi := (List.getElem?_eq_some_iff.1 hx).1
        rw [lvl_at hx] at hle
        have hxv : x.Var.toNat = v := hO.lv.inj _ _ (by omega) hat.1 (by rw [hle, hat.2])
        have h1 : ∀ σ, den N σ x.Lo.toNat = f (setA σ v false) := fun σ => by rw [← hf, ← hxv]; exact (h.den_cof hx σ false).symm
        have h2 : ∀ σ, den N σ x.Hi.toNat = f (setA σ v true) := fun σ => by rw [← hf, ← hxv]; exact (h.den_cof hx σ true).symm
        rw [addF_rep hO h k (l + 1) (by omega) (r := x.Lo.toNat) hd.set (by omega) h1, addF_rep hO h k (l + 1) (by omega) (r := x.Hi.toNat) hd.set (by omega) h2]
        have hxe : (⟨(v : Int), ((x.Lo.toNat : Nat) : Int), ((x.Hi.toNat : Nat) : Int)⟩ : GDNode) = x := by
          cases x
          simp only [GDNode.mk.injEq]
          simp only at *
          omega
        have hm : x ∈ N := List.mem_of_getElem? hx
        have hix : N.idxOf x = i := by
          have hlt' : N.idxOf x < N.length := List.idxOf_lt_length_of_mem hm
          exact h.dis _ _ x (by rw [List.getElem?_eq_getElem hlt', List.getElem_idxOf]) hx
        simp only [mkD]
        rw [if_neg (by omega), hxe, if_pos hm, hix]
/-- What adding a function gives. -/
theorem addF_spec (hO : OrdL n lev ord) : ∀ (k l : Nat), l + k = n → ∀ {f : Asg → Bool} {N : List GDNode}, WT n lev N → Dep f (ord.drop l) →
    WT n lev (addF (ord.drop l) f N).1 ∧ (∃ M, (addF (ord.drop l) f N).1 = N ++ M) ∧ (addF (ord.drop l) f N).2 < 2 + (addF (ord.drop l) f N).1.length ∧ ∀ σ, den (addF (ord.drop l) f N).1 σ (addF (ord.drop l) f N).2 = f σ
  | 0, l, hk, f, N, h, hd => by
    have e : ord.drop l = [] := List.drop_eq_nil_of_le (by rw [hO.len]; omega)
    rw [e] at hd ⊢
    rw [addF]
    refine ⟨h, ⟨[], by simp⟩, ?_, fun σ => ?_⟩
    · simp only; split <;> omega
    · simp only
      rw [hd σ (fun _ => false) (fun v hv => by simp at hv)]
      split
      · rename_i hb; rw [den_one, hb]
      · rename_i hb; rw [den_zero]; simpa using hb
  | k + 1, l, hk, f, N, h, hd => by
    have hl : l < ord.length := by rw [hO.len]; omega
    have hdr : ord.drop l = ord[l] :: ord.drop (l + 1) := List.drop_eq_getElem_cons hl
    generalize hv : ord[l] = v at hdr
    have hat := hO.at_ l v (by rw [List.getElem?_eq_getElem hl, hv])
    rw [hdr] at hd ⊢
    obtain ⟨a1, ⟨M1, a2⟩, a3, a4⟩ := addF_spec hO k (l + 1) (by omega) (f := fun σ => f (setA σ v false)) h hd.set
    generalize hA : addF (ord.drop (l + 1)) (fun σ => f (setA σ v false)) N = A at a1 a2 a3 a4
    obtain ⟨b1, ⟨M2, b2⟩, b3, b4⟩ := addF_spec hO k (l + 1) (by omega) (f := fun σ => f (setA σ v true)) a1 hd.set
    generalize hB : addF (ord.drop (l + 1)) (fun σ => f (setA σ v true)) A.1 = B at b1 b2 b3 b4
    rw [addF, hA, hB]
    have a3' : A.2 < 2 + B.1.length := by rw [b2, List.length_append]; omega
    have a4' : ∀ σ, den B.1 σ A.2 = f (setA σ v false) := fun σ => by rw [b2, den_app _ a3, a4]
    have hla : l + 1 ≤ lvl n lev B.1 A.2 := b1.lvl_ge hO a3' (by omega) (fun σ σ' hh => by simp only [a4']; exact hd.set σ σ' hh)
    have hlb : l + 1 ≤ lvl n lev B.1 B.2 := b1.lvl_ge hO b3 (by omega) (fun σ σ' hh => by simp only [b4]; exact hd.set σ σ' hh)
    have hdec : ∀ σ, f σ = bif σ v then f (setA σ v true) else f (setA σ v false) := fun σ => by
      cases hs : σ v
      · rw [show setA σ v false = σ by rw [← hs]; exact setA_id]; rfl
      · rw [show setA σ v true = σ by rw [← hs]; exact setA_id]; rfl
    unfold mkD
    split
    · rename_i heq
      refine ⟨b1, ⟨M1 ++ M2, by rw [b2, a2, List.append_assoc]⟩, a3', fun σ => ?_⟩
      rw [hdec]
      cases hs : σ v
      · exact a4' σ
      · have := b4 σ; rw [← heq] at this; exact this
    · rename_i hne
      have hval : ∀ (N' : List GDNode) (i : Nat) σ, N'[i]? = some (⟨(v : Int), (A.2 : Int), (B.2 : Int)⟩ : GDNode) → (∃ M, N' = B.1 ++ M) → A.2 < 2 + i → B.2 < 2 + i → den N' σ (2 + i) = f σ := by
        rintro N' i σ hi ⟨M, rfl⟩ ha hb
        rw [den_node hi (by simpa using ha) (by simpa using hb)]
        simp only [Int.toNat_natCast]
        rw [den_app _ a3', den_app _ b3, a4', b4]
        exact (hdec σ).symm
      split
      · rename_i hm
        have hlt : B.1.idxOf (⟨(v : Int), (A.2 : Int), (B.2 : Int)⟩ : GDNode) < B.1.length := List.idxOf_lt_length_of_mem hm
        have hget : B.1[B.1.idxOf (⟨(v : Int), (A.2 : Int), (B.2 : Int)⟩ : GDNode)]? = some (⟨(v : Int), (A.2 : Int), (B.2 : Int)⟩ : GDNode) := by rw [List.getElem?_eq_getElem hlt, List.getElem_idxOf]
        obtain ⟨_, c1, c2, _⟩ := b1.nd _ _ hget
        simp only at c1 c2
        exact ⟨b1, ⟨M1 ++ M2, by rw [b2, a2, List.append_assoc]⟩, by simp only; omega, fun σ => hval B.1 _ σ hget ⟨[], by simp⟩ (by omega) (by omega)⟩
      · rename_i hm
        refine ⟨b1.snoc ⟨by simp, by simp only; omega⟩ ⟨by simp, by simp only; omega⟩ ⟨by simp, by simp only; omega⟩ (by simp only; omega) (by simp only [Int.toNat_natCast]; rw [hat.2]; omega) (by simp only [Int.toNat_natCast]; rw [hat.2]; omega) hm,
          ⟨M1 ++ M2 ++ [⟨(v : Int), (A.2 : Int), (B.2 : Int)⟩], by rw [b2, a2]; simp⟩, by simp, fun σ => hval _ _ σ (by simp) ⟨_, rfl⟩ a3' b3⟩
/-- Events that a function does not look at are passed over. -/
theorem addF_skip (hO : OrdL n lev ord) (h : WT n lev N) {f : Asg → Bool} {l : Nat} (hl : l < n) (hd : Dep f (ord.drop (l + 1))) : addF (ord.drop l) f N = addF (ord.drop (l + 1)) f N := by
  have hl' : l < ord.length := by rw [hO.len]; omega
  have hdr : ord.drop l = ord[l] :: ord.drop (l + 1) := List.drop_eq_getElem_cons hl'
  generalize hv : ord[l] = v at hdr
  have hat := hO.at_ l v (by rw [List.getElem?_eq_getElem hl', hv])
  have hf : ∀ b, (fun σ => f (setA σ v b)) = f := fun b => by
    funext σ
    exact hd.not (fun hm => by have := (hO.mem.1 hm).2; omega) σ b
  obtain ⟨a1, _, a3, a4⟩ := addF_spec hO (n - (l + 1)) (l + 1) (by omega) h hd
  rw [hdr, addF, hf, hf, addF_rep hO a1 (n - (l + 1)) (l + 1) (by omega) hd a3 a4]
  simp [mkD]
theorem addF_skips (hO : OrdL n lev ord) (h : WT n lev N) {f : Asg → Bool} : ∀ (k l : Nat), l + k ≤ n → Dep f (ord.drop (l + k)) → addF (ord.drop l) f N = addF (ord.drop (l + k)) f N
  | 0, l, _, _ => rfl
  | k + 1, l, hk, hd => by
    rw [addF_skip hO h (by omega) (hd.sub fun v hv => hO.mem.2 ⟨(hO.mem.1 hv).1, by have := (hO.mem.1 hv).2; omega⟩), addF_skips hO h k (l + 1) (by omega) (by rw [show l + 1 + k = l + (k + 1) by omega]; exact hd), show l + 1 + k = l + (k + 1) by omega]
/-- A node's function is added by its two halves. -/
theorem addF_node (hO : OrdL n lev ord) (h : WT n lev N) {f : Asg → Bool} {v : Nat} (hv : v < n) (hd : Dep f (ord.drop (lev v))) :
    addF ord f N = mkD v (addF ord (fun σ => f (setA σ v false)) N).2 (addF ord (fun σ => f (setA σ v true)) (addF ord (fun σ => f (setA σ v false)) N).1).2 (addF ord (fun σ => f (setA σ v true)) (addF ord (fun σ => f (setA σ v false)) N).1).1 := by
  have hlt := hO.lv.lt v hv
  have hd2 : ∀ b, Dep (fun σ => f (setA σ v b)) (ord.drop (lev v + 1)) := fun b => by
    rw [hO.drop hv] at hd
    exact hd.set
  have e : ∀ (g : Asg → Bool) (N : List GDNode), WT n lev N → Dep g (ord.drop (lev v + 1)) → addF ord g N = addF (ord.drop (lev v + 1)) g N := fun g N hN hg => by
    have := addF_skips hO hN (f := g) (lev v + 1) 0 (by omega) (by simpa using hg)
    simpa using this
  have h0 : addF ord f N = addF (ord.drop (lev v)) f N := by
    have := addF_skips hO h (f := f) (lev v) 0 (by omega) (by simpa using hd)
    simpa using this
  obtain ⟨a1, _⟩ := addF_spec hO (n - (lev v + 1)) (lev v + 1) (by omega) h (hd2 false)
  rw [h0, hO.drop hv, addF, e _ N h (hd2 false), e _ _ a1 (hd2 true)]
/-- The whole order. -/
theorem addF_all (hO : OrdL n lev ord) (h : WT n lev N) {f : Asg → Bool} (hd : Dep f ord) : WT n lev (addF ord f N).1 ∧ (∃ M, (addF ord f N).1 = N ++ M) ∧ (addF ord f N).2 < 2 + (addF ord f N).1.length ∧ ∀ σ, den (addF ord f N).1 σ (addF ord f N).2 = f σ := by
  have := addF_spec hO n 0 (by omega) (f := f) h (by simpa using hd)
  simpa using this
theorem addF_has (hO : OrdL n lev ord) (h : WT n lev N) {f : Asg → Bool} {r : Nat} (hd : Dep f ord) (hr : r < 2 + N.length) (hf : ∀ σ, den N σ r = f σ) : addF ord f N = (N, r) := by
  have := addF_rep hO h n 0 (by omega) (f := f) (r := r) (by simpa using hd) hr hf
  simpa using this
end
end Go.Gg
namespace Go.Gg
/-- The kids of nodes stand ahead of them. -/
def Kids (N : List GDNode) : Prop := ∀ (i : Nat) (x : GDNode), N[i]? = some x → (0 ≤ x.Lo ∧ x.Lo < 2 + i) ∧ 0 ≤ x.Hi ∧ x.Hi < 2 + i
/-- References in the order of a depth-first walk, behind those before. -/
def numb (N : List GDNode) : Nat → Nat → List Int → List Int
  | 0, _, b => b
  | fu + 1, r, b => if r < 2 ∨ (r : Int) ∈ b then b else match N[r - 2]? with
    | none => b
    | some x => numb N fu x.Hi.toNat (numb N fu x.Lo.toNat b) ++ [(r : Int)]
def numR (N : List GDNode) (r : Nat) (b : List Int) : List Int := numb N (r + 1) r b
section
variable {N : List GDNode}
theorem numb_fuel (hK : Kids N) : ∀ (r fu fu' : Nat) (b : List Int), r < fu → r < fu' → numb N fu r b = numb N fu' r b := by
  intro r
  induction r using Nat.strongRecOn with
  | _ r ih =>
    intro fu fu' b h h'
    obtain ⟨g, rfl⟩ : ∃ g, fu = g + 1 := ⟨fu - 1, by omega⟩
    obtain ⟨g', rfl⟩ : ∃ g, fu' = g + 1 := ⟨fu' - 1, by omega⟩
    rw [numb, numb]
    by_cases hc : r < 2 ∨ (r : Int) ∈ b
    · rw [if_pos hc, if_pos hc]
    · rw [if_neg hc, if_neg hc]
      cases hx : N[r - 2]? with
      | none => rfl
      | some x =>
        have hk := hK _ x hx
        simp only
        rw [ih x.Lo.toNat (by omega) g g' b (by omega) (by omega), ih x.Hi.toNat (by omega) g g' _ (by omega) (by omega)]
theorem numR_old {r : Nat} {b : List Int} (h : r < 2 ∨ (r : Int) ∈ b) : numR N r b = b := by rw [numR, numb, if_pos h]
theorem numR_node (hK : Kids N) {i : Nat} {x : GDNode} {b : List Int} (hx : N[i]? = some x) (h : ((2 + i : Nat) : Int) ∉ b) : numR N (2 + i) b = numR N x.Hi.toNat (numR N x.Lo.toNat b) ++ [((2 + i : Nat) : Int)] := by
  have hk := hK _ x hx
  conv => lhs; unfold numR
  rw [numb, if_neg (by intro hc; rcases hc with hc | hc; omega; exact h hc), show 2 + i - 2 = i by omega, hx]
  simp only
  rw [numb_fuel hK x.Lo.toNat (2 + i) (x.Lo.toNat + 1) b (by omega) (by omega), numb_fuel hK x.Hi.toNat (2 + i) (x.Hi.toNat + 1) _ (by omega) (by omega)]
  rfl
theorem numR_ext (hK : Kids N) : ∀ (r : Nat) (b : List Int), ∃ c, numR N r b = b ++ c ∧ ∀ q ∈ c, 2 ≤ q ∧ q ≤ r := by
  intro r
  induction r using Nat.strongRecOn with
  | _ r ih =>
    intro b
    by_cases hc : r < 2 ∨ (r : Int) ∈ b
    · exact ⟨[], by rw [numR_old hc]; simp, by simp⟩
    · obtain ⟨i, rfl⟩ : ∃ i, r = 2 + i := ⟨r - 2, by omega⟩
      cases hx : N[i]? with
      | none =>
        refine ⟨[], ?_, by simp⟩
        rw [numR, numb, if_neg hc, show 2 + i - 2 = i by omega, hx]
        simp
      | some x =>
        have hk := hK _ x hx
        obtain ⟨c1, h1, k1⟩ := ih x.Lo.toNat (by omega) b
        obtain ⟨c2, h2, k2⟩ := ih x.Hi.toNat (by omega) (b ++ c1)
        refine ⟨c1 ++ c2 ++ [((2 + i : Nat) : Int)], ?_, fun q hq => ?_⟩
        · rw [numR_node hK hx (fun hm => hc (.inr hm)), h1, h2]; simp
        · simp only [List.mem_append, List.mem_singleton] at hq
          rcases hq with (hq | hq) | rfl
          · have := k1 q hq; omega
          · have := k2 q hq; omega
          · omega
/-- The references of the first nodes. -/
def upto (k : Nat) : List Int := (List.range k).map fun i => ((2 + i : Nat) : Int)
theorem mem_upto {k : Nat} {q : Int} : q ∈ upto k ↔ 2 ≤ q ∧ q < 2 + k := by
  simp only [upto, List.mem_map, List.mem_range]
  constructor
  · rintro ⟨i, hi, rfl⟩; omega
  · rintro ⟨h1, h2⟩; exact ⟨(q - 2).toNat, by omega, by omega⟩
theorem upto_len {k : Nat} : (upto k).length = k := by simp [upto]
theorem upto_pre {k : Nat} {l m : List Int} (h : l ++ m = upto k) : l = upto l.length := by
  have h1 : l = (upto k).take l.length := by rw [← h]; simp
  have hlen : l.length ≤ k := by have := congrArg List.length h; simp [upto_len] at this; omega
  rw [h1]
  simp only [upto, List.length_map, List.length_range, ← List.map_take, List.take_range, Nat.min_eq_left hlen]
theorem upto_succ {k : Nat} : upto (k + 1) = upto k ++ [((2 + k : Nat) : Int)] := by simp [upto, List.range_succ]
variable {n : Nat} {lev : Nat → Nat} {ord : List Nat}
theorem WT.kids (h : WT n lev N) : Kids N := fun i x hx => ⟨(h.nd i x hx).lo, (h.nd i x hx).hi⟩
theorem WT.take (h : WT n lev N) (k : Nat) : WT n lev (N.take k) := by
  have sub : ∀ i x, (N.take k)[i]? = some x → N[i]? = some x ∧ i < k ∧ i < N.length := fun i x hx => by
    rw [List.getElem?_take] at hx
    split at hx
    · exact ⟨hx, by assumption, (List.getElem?_eq_some_iff.1 hx).1⟩
    · cases hx
  have hlv : ∀ r, r < 2 + (N.take k).length → lvl n lev (N.take k) r = lvl n lev N r := fun r hr => by
    conv => rhs; rw [← List.take_append_drop k N]
    exact (lvl_app _ hr).symm
  refine ⟨fun i x hx => ?_, fun i j x hi hj => h.dis i j x (sub i x hi).1 (sub j x hj).1⟩
  obtain ⟨h1, h2, h3⟩ := sub i x hx
  obtain ⟨a, b, c, d, e, f⟩ := h.nd i x h1
  have hl : i < (N.take k).length := by simp; omega
  exact ⟨a, b, c, d, by rw [hlv _ (by omega)]; exact e, by rw [hlv _ (by omega)]; exact f⟩
theorem den_take {k r : Nat} {σ : Asg} (h : r < 2 + (N.take k).length) : den (N.take k) σ r = den N σ r := by
  conv => rhs; rw [← List.take_append_drop k N]
  exact (den_app _ h).symm
/-- Nodes that are numbered by a walk are those that adding their function gives. -/
theorem numb_addF (hO : OrdL n lev ord) (h : WT n lev N) : ∀ (r k k' : Nat), r < 2 + N.length → k ≤ N.length → k' ≤ N.length → numR N r (upto k) = upto k' → addF ord (fun σ => den N σ r) (N.take k) = (N.take k', r) := by
  have hdep : ∀ r, r < 2 + N.length → Dep (fun σ => den N σ r) ord := fun r hr => (h.dep hO hr).sub fun v hv => List.mem_of_mem_drop hv
  intro r
  induction r using Nat.strongRecOn with
  | _ r ih =>
    intro k k' hr hk hk' hn
    by_cases hc : r < 2 ∨ (r : Int) ∈ upto k
    · rw [numR_old hc] at hn
      obtain rfl : k = k' := by have := congrArg List.length hn; simpa [upto_len] using this
      have hr' : r < 2 + (N.take k).length := by
        rcases hc with hc | hc
        · omega
        · have := mem_upto.1 hc
          simp; omega
      exact addF_has hO (h.take k) (hdep r hr) hr' (fun σ => den_take hr')
    · rcases ref_cases hr with rfl | rfl | ⟨i, x, rfl, hx⟩
      · exact (hc (.inl (by omega))).elim
      · exact (hc (.inl (by omega))).elim
      · have hnode := numR_node h.kids hx (fun hm => hc (.inr hm))
        rw [hn] at hnode
        obtain ⟨a, b, c, d, e, f⟩ := h.nd i x hx
        have hi := (List.getElem?_eq_some_iff.1 hx).1
        obtain ⟨m, rfl⟩ : ∃ m, k' = m + 1 := by
          cases k' with
          | zero => simp [upto] at hnode
          | succ m => exact ⟨m, rfl⟩
        rw [upto_succ] at hnode
        obtain ⟨h1, h2⟩ := List.append_inj' hnode (by simp)
        obtain rfl : i = m := by simp at h2; omega
        obtain ⟨c1, e1, _⟩ := numR_ext h.kids x.Lo.toNat (upto k)
        obtain ⟨c2, e2, _⟩ := numR_ext h.kids x.Hi.toNat (numR N x.Lo.toNat (upto k))
        rw [e2] at h1
        have hp := upto_pre h1.symm
        generalize hk1 : (numR N x.Lo.toNat (upto k)).length = k1 at hp
        have hk1' : k1 ≤ i := by
          have := congrArg List.length h1
          simp [upto_len] at this
          omega
        have r1 := ih x.Lo.toNat (by omega) k k1 (by omega) hk (by omega) hp
        have r2 := ih x.Hi.toNat (by omega) k1 i (by omega) (by omega) (by omega) (by rw [← hp, e2]; exact h1.symm)
        have hv : x.Var.toNat < n := by omega
        have hdn : Dep (fun σ => den N σ (2 + i)) (ord.drop (lev x.Var.toNat)) := by
          have := h.dep hO hr
          rw [lvl_at hx] at this
          exact this
        rw [addF_node hO (h.take k) hv hdn]
        have f1 : (fun σ => den N (setA σ x.Var.toNat false) (2 + i)) = fun σ => den N σ x.Lo.toNat := by funext σ; exact h.den_cof hx σ false
        have f2 : (fun σ => den N (setA σ x.Var.toNat true) (2 + i)) = fun σ => den N σ x.Hi.toNat := by funext σ; exact h.den_cof hx σ true
        rw [f1, f2, r1, r2]
        have hxe : (⟨(x.Var.toNat : Int), ((x.Lo.toNat : Nat) : Int), ((x.Hi.toNat : Nat) : Int)⟩ : GDNode) = x := by
          cases x
          simp only [GDNode.mk.injEq]
          simp only at *
          omega
        have hnm : x ∉ N.take i := fun hm => by
          obtain ⟨j, hj⟩ := List.mem_iff_getElem?.1 hm
          rw [List.getElem?_take] at hj
          split at hj
          · have := h.dis i j x hx hj; omega
          · cases hj
        simp only [mkD]
        rw [if_neg (by omega), hxe, if_neg hnm]
        rw [Prod.mk.injEq]
        refine ⟨?_, by simp; omega⟩
        rw [List.take_add_one, hx]
        rfl
end
end Go.Gg
namespace Go.Gg
theorem mget_put {V : Type} {m : GMap V} {k q : List Int} {v : V} : mget (mput m k v) q = if q = k then some v else mget m q := rfl
theorem mget_put1 {V : Type} {m : GMap V} {k q : Int} {v : V} : mget (mput m [k] v) [q] = if q = k then some v else mget m [q] := by
  rw [mget_put]
  by_cases h : q = k
  · subst h; rw [if_pos rfl, if_pos rfl]
  · rw [if_neg h, if_neg (fun hc => h (by simpa using hc))]
theorem mget_new {V : Type} {q : List Int} : mget (mnew : GMap V) q = none := rfl
section
variable {n : Nat} {lev : Nat → Nat} {ord : List Nat}
/-- References that have been brought over. -/
structure EX (n : Nat) (lev : Nat → Nat) (T : List GDNode) (refs : GMap Int) (N : List GDNode) : Prop where
  wt : WT n lev N
  c0 : mget refs [0] = some 0
  c1 : mget refs [1] = some 1
  sound : ∀ r x, mget refs [r] = some x → 0 ≤ r ∧ r.toNat < 2 + T.length ∧ 0 ≤ x ∧ x.toNat < 2 + N.length ∧ ∀ σ, den N σ x.toNat = den T σ r.toNat
  onto : ∀ i, i < N.length → ∃ r, mget refs [r] = some ((2 + i : Nat) : Int)
variable {T N : List GDNode} {refs : GMap Int}
theorem WT.dep_all (hO : OrdL n lev ord) (h : WT n lev N) {r : Nat} (hr : r < 2 + N.length) : Dep (fun σ => den N σ r) ord := (h.dep hO hr).sub fun _ hv => List.mem_of_mem_drop hv
theorem EX.start : EX n lev T (mput (mput mnew [0] 0) [1] 1) [] := by
  refine ⟨WT.nil, ?_, ?_, fun r x h => ?_, fun i hi => by simp at hi⟩
  · rw [mget_put1, if_neg (by decide), mget_put1, if_pos rfl]
  · rw [mget_put1, if_pos rfl]
  · rw [mget_put1] at h
    by_cases h1 : r = 1
    · subst h1; rw [if_pos rfl] at h; cases h
      exact ⟨by decide, by simp; omega, by decide, by simp, fun σ => by rw [show (1 : Int).toNat = 1 from rfl, den_one, den_one]⟩
    · rw [if_neg h1, mget_put1] at h
      by_cases h0 : r = 0
      · subst h0; rw [if_pos rfl] at h; cases h
        exact ⟨by decide, by simp; omega, by decide, by simp, fun σ => by rw [show (0 : Int).toNat = 0 from rfl, den_zero, den_zero]⟩
      · rw [if_neg h0, mget_new] at h; cases h
theorem EX.old (hO : OrdL n lev ord) (hT : WT n lev T) (h : EX n lev T refs N) {r x : Int} (hr : mget refs [r] = some x) : addF ord (fun σ => den T σ r.toNat) N = (N, x.toNat) := by
  obtain ⟨_, h2, _, h4, h5⟩ := h.sound r x hr
  exact addF_has hO h.wt (hT.dep_all hO h2) h4 h5
theorem EX.node (hO : OrdL n lev ord) (hT : WT n lev T) {N1 N2 : List GDNode} {refs2 : GMap Int} {i : Nat} {x : GDNode} {y1 y2 : Int} (hN : WT n lev N) (h : EX n lev T refs2 N2) (hx : T[i]? = some x) (hy1 : 0 ≤ y1) (hy2 : 0 ≤ y2)
    (e1 : addF ord (fun σ => den T σ x.Lo.toNat) N = (N1, y1.toNat)) (e2 : addF ord (fun σ => den T σ x.Hi.toNat) N1 = (N2, y2.toNat)) (hno : mget refs2 [((2 + i : Nat) : Int)] = none) :
    addF ord (fun σ => den T σ (2 + i)) N = (N2 ++ [⟨x.Var, y1, y2⟩], 2 + N2.length) ∧ EX n lev T (mput refs2 [((2 + i : Nat) : Int)] ((2 + N2.length : Nat) : Int)) (N2 ++ [⟨x.Var, y1, y2⟩]) := by
  obtain ⟨a, b, c, d, e, f⟩ := hT.nd i x hx
  have hi := (List.getElem?_eq_some_iff.1 hx).1
  have hv : x.Var.toNat < n := by omega
  have hd := hT.dep hO (r := 2 + i) (by omega)
  rw [lvl_at hx] at hd
  have f1 : (fun σ => den T (setA σ x.Var.toNat false) (2 + i)) = fun σ => den T σ x.Lo.toNat := by funext σ; exact hT.den_cof hx σ false
  have f2 : (fun σ => den T (setA σ x.Var.toNat true) (2 + i)) = fun σ => den T σ x.Hi.toNat := by funext σ; exact hT.den_cof hx σ true
  have s1 := addF_all hO hN (hT.dep_all hO (r := x.Lo.toNat) (by omega))
  rw [e1] at s1
  have s2 := addF_all hO s1.1 (hT.dep_all hO (r := x.Hi.toNat) (by omega))
  rw [e2] at s2
  obtain ⟨w1, _, l1, d1⟩ := s1
  obtain ⟨w2, ⟨M, rfl⟩, l2, d2⟩ := s2
  simp only at w1 l1 d1 w2 l2 d2
  have l1' : y1.toNat < 2 + (N1 ++ M).length := by simp; omega
  have d1' : ∀ σ, den (N1 ++ M) σ y1.toNat = den T σ x.Lo.toNat := fun σ => by rw [den_app _ l1, d1]
  have hne : y1.toNat ≠ y2.toNat := fun hc => by
    have := hT.canon hO.lv (r := x.Lo.toNat) (s := x.Hi.toNat) (by omega) (by omega) fun σ => by rw [← d1', ← d2, hc]
    omega
  have hxe : (⟨((x.Var.toNat : Nat) : Int), ((y1.toNat : Nat) : Int), ((y2.toNat : Nat) : Int)⟩ : GDNode) = ⟨x.Var, y1, y2⟩ := by
    simp only [GDNode.mk.injEq]
    omega
  have hval : ∀ (N' : List GDNode) j σ, N'[j]? = some (⟨x.Var, y1, y2⟩ : GDNode) → (∃ M', N' = (N1 ++ M) ++ M') → y1.toNat < 2 + j → y2.toNat < 2 + j → den N' σ (2 + j) = den T σ (2 + i) := by
    rintro N' j σ hj ⟨M', rfl⟩ h1 h2
    rw [den_node hj h1 h2, hT.den_at hx, den_app _ l1', den_app _ l2, d1', d2]
  have hnm : (⟨x.Var, y1, y2⟩ : GDNode) ∉ N1 ++ M := fun hm => by
    obtain ⟨j, hj⟩ := List.mem_iff_getElem?.1 hm
    have hjl := (List.getElem?_eq_some_iff.1 hj).1
    obtain ⟨_, p1, p2, _⟩ := w2.nd j _ hj
    simp only at p1 p2
    obtain ⟨r0, hr0⟩ := h.onto j hjl
    obtain ⟨q1, q2, _, _, q5⟩ := h.sound r0 _ hr0
    have := hT.canon hO.lv (r := r0.toNat) (s := 2 + i) q2 (by omega) fun σ => by
      rw [← q5, Int.toNat_natCast]
      exact hval _ j σ hj ⟨[], by simp⟩ (by omega) (by omega)
    rw [show r0 = ((2 + i : Nat) : Int) by omega, hno] at hr0
    cases hr0
  have hadd : addF ord (fun σ => den T σ (2 + i)) N = ((N1 ++ M) ++ [⟨x.Var, y1, y2⟩], 2 + (N1 ++ M).length) := by
    rw [addF_node hO hN hv hd, f1, f2, e1, e2]
    simp only [mkD]
    rw [if_neg hne, hxe, if_neg hnm]
  refine ⟨hadd, ?_⟩
  have s3 := addF_all hO hN (hT.dep_all hO (r := 2 + i) (by omega))
  rw [hadd] at s3
  refine ⟨s3.1, ?_, ?_, fun r y hr => ?_, fun j hj => ?_⟩
  · rw [mget_put1, if_neg (by omega)]; exact h.c0
  · rw [mget_put1, if_neg (by omega)]; exact h.c1
  · rw [mget_put1] at hr
    by_cases hri : r = ((2 + i : Nat) : Int)
    · rw [if_pos hri] at hr
      cases hr
      subst hri
      refine ⟨by omega, by rw [Int.toNat_natCast]; omega, by omega, by rw [Int.toNat_natCast]; simp, fun σ => ?_⟩
      rw [Int.toNat_natCast, Int.toNat_natCast]
      exact s3.2.2.2 σ
    · rw [if_neg hri] at hr
      obtain ⟨q1, q2, q3, q4, q5⟩ := h.sound r y hr
      exact ⟨q1, q2, q3, by rw [List.length_append]; omega, fun σ => by rw [den_app _ q4, q5]⟩
  · have hlen : ((N1 ++ M) ++ [(⟨x.Var, y1, y2⟩ : GDNode)]).length = (N1 ++ M).length + 1 := by rw [List.length_append]; rfl
    rw [hlen] at hj
    by_cases hj' : j < (N1 ++ M).length
    · obtain ⟨r, hr⟩ := h.onto j hj'
      refine ⟨r, ?_⟩
      rw [mget_put1, if_neg, hr]
      rintro rfl
      rw [hno] at hr; cases hr
    · obtain rfl : j = (N1 ++ M).length := by omega
      exact ⟨((2 + i : Nat) : Int), by rw [mget_put1, if_pos rfl]⟩
end
end Go.Gg
namespace Go.Gg
/-- A reference of a list of nodes. -/
def Vd (N : List GDNode) (r : Int) : Prop := 0 ≤ r ∧ r.toNat < 2 + N.length
/-- The function of a reference. -/
def dn (N : List GDNode) (r : Int) (σ : Asg) : Bool := den N σ r.toNat
def Pre (N N' : List GDNode) : Prop := ∃ M, N' = N ++ M
theorem Pre.refl (N : List GDNode) : Pre N N := ⟨[], by simp⟩
theorem Pre.trans {A B C : List GDNode} (h : Pre A B) (h' : Pre B C) : Pre A C := let ⟨M, a⟩ := h; let ⟨M', b⟩ := h'; ⟨M ++ M', by rw [b, a, List.append_assoc]⟩
theorem Pre.len {A B : List GDNode} (h : Pre A B) : A.length ≤ B.length := by obtain ⟨M, rfl⟩ := h; simp
theorem Vd.pre {N N' : List GDNode} {r : Int} (h : Vd N r) (hp : Pre N N') : Vd N' r := ⟨h.1, by have := h.2; have := hp.len; omega⟩
theorem dn_pre {N N' : List GDNode} {r : Int} (h : Vd N r) (hp : Pre N N') : dn N' r = dn N r := by
  obtain ⟨M, rfl⟩ := hp
  funext σ
  exact den_app M h.2
theorem Pre.lvl {n : Nat} {lev : Nat → Nat} {N N' : List GDNode} {r : Int} (h : Vd N r) (hp : Pre N N') : lvl n lev N' r.toNat = lvl n lev N r.toNat := by
  obtain ⟨M, rfl⟩ := hp
  exact lvl_app M h.2
theorem vd0 {N : List GDNode} : Vd N 0 := ⟨by decide, by show 0 < _; omega⟩
theorem vd1 {N : List GDNode} : Vd N 1 := ⟨by decide, by show 1 < _; omega⟩
theorem dn0 {N : List GDNode} : dn N 0 = fun _ => false := by funext σ; exact den_zero
theorem dn1 {N : List GDNode} : dn N 1 = fun _ => true := by funext σ; exact den_one
/-- A table: its nodes, where each of them stands, choices that were made. -/
structure TB (n : Nat) (lev : Nat → Nat) (nodes : List GDNode) (unique memo : GMap Int) : Prop where
  wt : WT n lev nodes
  uq : ∀ v lo hi r, mget unique [v, lo, hi] = some r ↔ ∃ i, r = ((2 + i : Nat) : Int) ∧ nodes[i]? = some ⟨v, lo, hi⟩
  me : ∀ c a b r, mget memo [c, a, b] = some r → (Vd nodes c ∧ Vd nodes a ∧ Vd nodes b) ∧ Vd nodes r ∧ ∀ σ, dn nodes r σ = bif dn nodes c σ then dn nodes a σ else dn nodes b σ
section
variable {n : Nat} {lev : Nat → Nat} {ord : List Nat} {nodes : List GDNode} {unique memo : GMap Int}
theorem TB.nil : TB n lev [] mnew mnew := ⟨WT.nil, fun v lo hi r => ⟨fun h => by simp [mget_new] at h, fun ⟨i, _, h⟩ => by simp at h⟩, fun c a b r h => by simp [mget_new] at h⟩
theorem TB.make_old (h : TB n lev nodes unique memo) {v lo hi r : Int} (hr : mget unique [v, lo, hi] = some r) : Vd nodes r ∧ ∀ σ, dn nodes r σ = bif σ v.toNat then dn nodes hi σ else dn nodes lo σ := by
  obtain ⟨i, rfl, hi'⟩ := (h.uq v lo hi r).1 hr
  have hl := (List.getElem?_eq_some_iff.1 hi').1
  refine ⟨⟨by omega, by rw [Int.toNat_natCast]; omega⟩, fun σ => ?_⟩
  unfold dn
  rw [Int.toNat_natCast]
  exact h.wt.den_at hi' σ
theorem TB.make_new (h : TB n lev nodes unique memo) {v lo hi : Int} (hv : 0 ≤ v ∧ v < n) (hlo : Vd nodes lo) (hhi : Vd nodes hi) (hne : lo ≠ hi) (h1 : lev v.toNat < lvl n lev nodes lo.toNat) (h2 : lev v.toNat < lvl n lev nodes hi.toNat) (hno : mget unique [v, lo, hi] = none) :
    TB n lev (nodes ++ [⟨v, lo, hi⟩]) (mput unique [v, lo, hi] (2 + nodes.length)) memo ∧ Vd (nodes ++ [⟨v, lo, hi⟩]) (2 + nodes.length) ∧
      ∀ σ, dn (nodes ++ [⟨v, lo, hi⟩]) (2 + nodes.length) σ = bif σ v.toNat then dn nodes hi σ else dn nodes lo σ := by
  have hnm : (⟨v, lo, hi⟩ : GDNode) ∉ nodes := fun hm => by
    obtain ⟨i, hi'⟩ := List.mem_iff_getElem?.1 hm
    have := (h.uq v lo hi _).2 ⟨i, rfl, hi'⟩
    rw [hno] at this; cases this
  have hp : Pre nodes (nodes ++ [⟨v, lo, hi⟩]) := ⟨_, rfl⟩
  have w := h.wt.snoc (x := ⟨v, lo, hi⟩) hv ⟨hlo.1, by have := hlo.2; have := hlo.1; simp only; omega⟩ ⟨hhi.1, by have := hhi.2; have := hhi.1; simp only; omega⟩ hne h1 h2 hnm
  have hlast : (nodes ++ [⟨v, lo, hi⟩])[nodes.length]? = some (⟨v, lo, hi⟩ : GDNode) := by simp
  refine ⟨⟨w, fun v' lo' hi' r => ?_, fun c a b r hr => ?_⟩, ⟨by omega, by rw [List.length_append, List.length_singleton]; omega⟩, fun σ => ?_⟩
  · rw [mget_put]
    constructor
    · intro hh
      by_cases he : [v', lo', hi'] = [v, lo, hi]
      · rw [if_pos he] at hh
        simp only [List.cons.injEq, and_true] at he
        obtain ⟨rfl, rfl, rfl⟩ := he
        cases hh
        exact ⟨nodes.length, by omega, hlast⟩
      · rw [if_neg he] at hh
        obtain ⟨i, a, b⟩ := (h.uq _ _ _ _).1 hh
        exact ⟨i, a, by rw [List.getElem?_append_left (List.getElem?_eq_some_iff.1 b).1]; exact b⟩
    · rintro ⟨i, rfl, hi2⟩
      have hil := (List.getElem?_eq_some_iff.1 hi2).1
      rw [List.length_append, List.length_singleton] at hil
      by_cases hi3 : i < nodes.length
      · rw [List.getElem?_append_left hi3] at hi2
        have := (h.uq v' lo' hi' _).2 ⟨i, rfl, hi2⟩
        rw [if_neg, this]
        intro he
        simp only [List.cons.injEq, and_true] at he
        obtain ⟨rfl, rfl, rfl⟩ := he
        rw [hno] at this; cases this
      · obtain rfl : i = nodes.length := by omega
        rw [hlast] at hi2
        cases hi2
        rw [if_pos rfl]
        congr 1
  · obtain ⟨⟨p1, p2, p3⟩, p4, p5⟩ := h.me c a b r hr
    exact ⟨⟨p1.pre hp, p2.pre hp, p3.pre hp⟩, p4.pre hp, fun σ => by rw [dn_pre p4 hp, dn_pre p1 hp, dn_pre p2 hp, dn_pre p3 hp]; exact p5 σ⟩
  · have := w.den_at hlast σ
    unfold dn
    rw [show (2 + (nodes.length : Int)).toNat = 2 + nodes.length by omega, this]
    simp only
    rw [den_app _ hlo.2, den_app _ hhi.2]
theorem TB.memo_put (h : TB n lev nodes unique memo) {c a b r : Int} (hc : Vd nodes c) (ha : Vd nodes a) (hb : Vd nodes b) (hr : Vd nodes r) (hd : ∀ σ, dn nodes r σ = bif dn nodes c σ then dn nodes a σ else dn nodes b σ) : TB n lev nodes unique (mput memo [c, a, b] r) := by
  refine ⟨h.wt, h.uq, fun c' a' b' r' hh => ?_⟩
  rw [mget_put] at hh
  by_cases he : [c', a', b'] = [c, a, b]
  · rw [if_pos he] at hh
    simp only [List.cons.injEq, and_true] at he
    obtain ⟨rfl, rfl, rfl⟩ := he
    cases hh
    exact ⟨⟨hc, ha, hb⟩, hr, hd⟩
  · rw [if_neg he] at hh
    exact h.me c' a' b' r' hh
end
end Go.Gg
/- The checks of a formula: the program's and the reference's functions. Conditions: the numbers fit the machine. -/
namespace Go.Gg
def argsB (k : Int) (n : Nat) : Bool := if k = 0 then decide (n = 0) else if k = 1 then decide (n = 1) else decide (1 ≤ n ∧ n ≤ 16)
/-- The number of the error of a node. -/
def nodeE (f : GFormula) (i : Nat) : Int :=
  if (at' f.Nodes (i : Int)).Kind < 0 ∨ 5 < (at' f.Nodes (i : Int)).Kind then 7
  else if argsB (at' f.Nodes (i : Int)).Kind (at' f.Nodes (i : Int)).Args.length = false then 11
  else if ∃ j < (at' f.Nodes (i : Int)).Args.length, at' (at' f.Nodes (i : Int)).Args (j : Int) < 0 ∨ f.Vars + i ≤ at' (at' f.Nodes (i : Int)).Args (j : Int) then 10
  else if (at' f.Nodes (i : Int)).Kind = 0 then (if (at' f.Nodes (i : Int)).K ≠ 0 ∧ (at' f.Nodes (i : Int)).K ≠ 1 then 3 else 0)
  else if (at' f.Nodes (i : Int)).Kind = 4 then (if (at' f.Nodes (i : Int)).K < 1 ∨ ((at' f.Nodes (i : Int)).Args.length : Int) < (at' f.Nodes (i : Int)).K then 3 else 0)
  else if (at' f.Nodes (i : Int)).K ≠ 0 then 2 else 0
def validB (f : GFormula) (a : Int) : Bool := decide (0 ≤ f.Vars ∧ 0 ≤ a ∧ (a < f.Vars ∨ a - f.Vars < f.Nodes.length))
/-- The number of the first error of a formula. -/
def chkM (f : GFormula) : Int :=
  if f.Vars < 0 ∨ 24 < f.Vars then 3 else if 128 < f.Nodes.length then 4
  else if firstE (nodeE f) f.Nodes.length ≠ 0 then firstE (nodeE f) f.Nodes.length
  else if validB f f.Top = false then 10 else 0
theorem argsB_le {k : Int} {n : Nat} (h : argsB k n = true) : n ≤ 16 := by
  unfold argsB at h
  split at h
  · simp at h; omega
  · split at h
    · simp at h; omega
    · simp at h; omega
theorem formula_arguments_s {k : Int} {n : Nat} {Q : Bool → Prop} (h : Q (argsB k n)) : formula_arguments_W k n Q := by
  unfold argsB at h
  refine condE (fun hc => ?_) (fun hc => condE (fun hc1 => ?_) (fun hc1 => condT (fun h1 => ?_) (fun h1 => ?_)))
  · rw [if_pos hc] at h
    rw [show ((n : Int) == 0) = decide (n = 0) by rw [Bool.eq_iff_iff]; simp]; exact h
  · rw [if_neg hc, if_pos hc1] at h
    rw [show ((n : Int) == 1) = decide (n = 1) by rw [Bool.eq_iff_iff]; simp; omega]; exact h
  · rw [if_neg hc, if_neg hc1] at h
    rw [show decide ((n : Int) ≤ 16) = decide (1 ≤ n ∧ n ≤ 16) from decide_eq_decide.2 (by omega)]; exact h
  · rw [if_neg hc, if_neg hc1, decide_eq_false (by omega)] at h; exact h
theorem formula_checkNode_s {f : GFormula} {i : Nat} {Q : Option Int → Prop} (hi : i < f.Nodes.length) (hV : 0 ≤ f.Vars ∧ f.Vars ≤ 24) (hn : f.Nodes.length ≤ 128) (h : Q (errO (nodeE f i))) : formula_checkNode_W f i Q := by
  unfold nodeE at h
  refine ⟨⟨by omega, by omega⟩, fun y => y = decide ((at' f.Nodes (i : Int)).Kind < 0 ∨ 5 < (at' f.Nodes (i : Int)).Kind), ?_, ?_⟩
  · exact condT (fun hc => (decide_eq_true (Or.inl hc)).symm) (fun hc => decide_eq_decide.2 ⟨Or.inr, fun hh => hh.resolve_left hc⟩)
  rintro _ rfl
  refine condT (fun hc => ?_) (fun hc => ?_)
  · rw [if_pos hc] at h; exact h
  rw [if_neg hc] at h
  refine formula_arguments_s (condB (fun hb => ?_) (fun hb => ?_))
  · rw [if_pos (by simpa using hb)] at h; exact h
  simp only [Bool.not_eq_false'] at hb
  rw [if_neg (by rw [hb]; simp)] at h
  have hl := argsB_le hb
  refine scanW (fun j => at' (at' f.Nodes (i : Int)).Args (j : Int) < 0 ∨ f.Vars + i ≤ at' (at' f.Nodes (i : Int)).Args (j : Int)) (by omega) (fun j next hj hI hnx => ?_) (fun hall => ?_)
  · refine ⟨⟨by omega, by omega⟩, fun y => y = decide (at' (at' f.Nodes (i : Int)).Args (j : Int) < 0 ∨ f.Vars + i ≤ at' (at' f.Nodes (i : Int)).Args (j : Int)), ?_, ?_⟩
    · exact condT (fun hc2 => (decide_eq_true (Or.inl hc2)).symm) (fun hc2 => ⟨by unfold rng; omega, decide_eq_decide.2 ⟨Or.inr, fun hh => hh.resolve_left hc2⟩⟩)
    · rintro _ rfl
      refine condT (fun hb2 => ?_) (fun hb2 => hnx hb2)
      rw [if_pos ⟨j, hj, hb2⟩] at h; exact h
  rw [if_neg (by rintro ⟨j, hj, hb2⟩; exact hall j hj hb2)] at h
  refine condE (fun h0 => ?_) (fun h0 => ?_)
  · rw [if_pos h0] at h
    refine ⟨fun y => y = decide ((at' f.Nodes (i : Int)).K ≠ 0 ∧ (at' f.Nodes (i : Int)).K ≠ 1), ?_, ?_⟩
    · refine condN (fun hk => ?_) (fun hk => ?_)
      · show ((at' f.Nodes (i : Int)).K != 1) = _
        rw [Bool.eq_iff_iff]; simp [hk]
      · rw [decide_eq_false (fun hh => hh.1 hk)]
    · rintro _ rfl
      refine condT (fun hk => ?_) (fun hk => ?_)
      · rw [if_pos hk] at h; exact h
      · rw [if_neg hk] at h; exact h
  rw [if_neg h0] at h
  refine condE (fun h4 => ?_) (fun h4 => ?_)
  · rw [if_pos h4] at h
    refine ⟨fun y => y = decide ((at' f.Nodes (i : Int)).K < 1 ∨ ((at' f.Nodes (i : Int)).Args.length : Int) < (at' f.Nodes (i : Int)).K), ?_, ?_⟩
    · exact condT (fun hk => (decide_eq_true (Or.inl hk)).symm) (fun hk => decide_eq_decide.2 ⟨Or.inr, fun hh => hh.resolve_left hk⟩)
    · rintro _ rfl
      refine condT (fun hk => ?_) (fun hk => ?_)
      · rw [if_pos hk] at h; exact h
      · rw [if_neg hk] at h; exact h
  rw [if_neg h4] at h
  refine condN (fun hk => ?_) (fun hk => ?_)
  · rw [if_pos hk] at h; exact h
  · rw [if_neg (fun hh => hh hk)] at h; exact h
theorem ref08_node_s {f : GFormula} {i : Nat} {Q : Int → Prop} (hi : i < f.Nodes.length) (hV : 0 ≤ f.Vars ∧ f.Vars ≤ 24) (hn : f.Nodes.length ≤ 128) (h : Q (nodeE f i)) : ref08_node_W f i Q := by
  unfold nodeE at h
  have hf7 : ((at' f.Nodes (i : Int)).Kind ≠ 0 ∧ (at' f.Nodes (i : Int)).Kind ≠ 1 ∧ (at' f.Nodes (i : Int)).Kind ≠ 2 ∧ (at' f.Nodes (i : Int)).Kind ≠ 3 ∧ (at' f.Nodes (i : Int)).Kind ≠ 4 ∧ (at' f.Nodes (i : Int)).Kind ≠ 5) → Q 7 := fun hh => by
    rw [if_pos (by omega)] at h; exact h
  refine ⟨⟨by omega, by omega⟩, fun y => (0 ≤ (at' f.Nodes (i : Int)).Kind ∧ (at' f.Nodes (i : Int)).Kind ≤ 5) ∧ (0 ≤ y.1 ∧ y.1 ≤ 1 ∧ 0 ≤ y.2 ∧ y.2 ≤ 16) ∧ ∀ n : Nat, argsB (at' f.Nodes (i : Int)).Kind n = decide (y.1 ≤ n ∧ (n : Int) ≤ y.2), ?_, ?_⟩
  · have hbig : ∀ n : Nat, (at' f.Nodes (i : Int)).Kind ≠ 0 → (at' f.Nodes (i : Int)).Kind ≠ 1 → argsB (at' f.Nodes (i : Int)).Kind n = decide ((1 : Int) ≤ n ∧ (n : Int) ≤ 16) := fun n h0 h1 => by
      rw [argsB, if_neg h0, if_neg h1]; exact decide_eq_decide.2 (by omega)
    refine condE (fun h0 : (at' f.Nodes (i : Int)).Kind = 0 => ⟨by omega, by decide, fun n => by rw [argsB, if_pos h0]; exact decide_eq_decide.2 (by dsimp only; omega)⟩) (fun h0 => condE (fun h1 : (at' f.Nodes (i : Int)).Kind = 1 => ⟨by omega, by decide, fun n => by rw [argsB, if_neg h0, if_pos h1]; exact decide_eq_decide.2 (by dsimp only; omega)⟩) (fun h1 => ?_))
    exact condE (fun h2 : (at' f.Nodes (i : Int)).Kind = 2 => ⟨by omega, by decide, fun n => hbig n h0 h1⟩) (fun h2 => condE (fun h3 : (at' f.Nodes (i : Int)).Kind = 3 => ⟨by omega, by decide, fun n => hbig n h0 h1⟩) (fun h3 => condE (fun h4 : (at' f.Nodes (i : Int)).Kind = 4 => ⟨by omega, by decide, fun n => hbig n h0 h1⟩) (fun h4 => condE (fun h5 : (at' f.Nodes (i : Int)).Kind = 5 => ⟨by omega, by decide, fun n => hbig n h0 h1⟩) (fun h5 => hf7 ⟨h0, h1, h2, h3, h4, h5⟩))))
  rintro ⟨lo, hi2⟩ ⟨hkind, hb, hargs⟩
  dsimp only at hb hargs
  rw [if_neg (by omega)] at h
  refine condT (fun (hc : ((at' f.Nodes (i : Int)).Args.length : Int) < lo) => ?_) (fun (hc : ¬ ((at' f.Nodes (i : Int)).Args.length : Int) < lo) => condT (fun (hc2 : hi2 < ((at' f.Nodes (i : Int)).Args.length : Int)) => ?_) (fun (hc2 : ¬ hi2 < ((at' f.Nodes (i : Int)).Args.length : Int)) => ?_))
  · rw [if_pos (by rw [hargs]; exact decide_eq_false (by omega))] at h; exact h
  · rw [if_pos (by rw [hargs]; exact decide_eq_false (by omega))] at h; exact h
  rw [if_neg (by rw [hargs, decide_eq_true (by omega)]; simp)] at h
  refine scanW (n := (at' f.Nodes (i : Int)).Args.length) (fun j => at' (at' f.Nodes (i : Int)).Args (j : Int) < 0 ∨ f.Vars + i ≤ at' (at' f.Nodes (i : Int)).Args (j : Int)) (by omega) (fun j next hj hI hnx => ?_) (fun hall => ?_)
  · refine ⟨⟨by omega, show (j : Int) < ((at' f.Nodes (i : Int)).Args.length : Int) by omega⟩, condT (fun hc3 => ?_) (fun hc3 => ⟨by unfold rng; omega, condT (fun hc4 => ?_) (fun hc4 => hnx (by rw [not_or]; exact ⟨hc3, hc4⟩))⟩)⟩
    · rw [if_pos ⟨j, hj, Or.inl hc3⟩] at h; exact h
    · rw [if_pos ⟨j, hj, Or.inr hc4⟩] at h; exact h
  rw [if_neg (by rintro ⟨j, hj, hb2⟩; exact hall j hj hb2)] at h
  refine condE (fun h0 => ?_) (fun h0 => ?_)
  · rw [if_pos h0] at h
    refine condN (fun hk => condN (fun hk1 => ?_) (fun hk1 => ?_)) (fun hk => ?_)
    · rw [if_pos ⟨hk, hk1⟩] at h; exact h
    · rw [if_neg (fun hh => hh.2 hk1)] at h; exact h
    · rw [if_neg (fun hh => hh.1 hk)] at h; exact h
  rw [if_neg h0] at h
  refine condE (fun h4 => ?_) (fun h4 => ?_)
  · rw [if_pos h4] at h
    refine condT (fun hk => ?_) (fun hk => condT (fun hk2 => ?_) (fun hk2 => ?_))
    · rw [if_pos (Or.inl hk)] at h; exact h
    · rw [if_pos (Or.inr hk2)] at h; exact h
    · rw [if_neg (by rw [not_or]; exact ⟨hk, hk2⟩)] at h; exact h
  rw [if_neg h4] at h
  refine condN (fun hk => ?_) (fun hk => ?_)
  · rw [if_pos hk] at h; exact h
  · rw [if_neg (fun hh => hh hk)] at h; exact h
theorem formula_Valid_s {f : GFormula} {a : Int} {Q : Bool → Prop} (ha : rng a) (h : Q (validB f a)) : formula_Valid_W f a Q := by
  unfold validB at h
  unfold rng at ha
  refine condT (fun h1 => condT (fun h2 => condT (fun h3 => ?_) (fun h3 => ⟨by unfold rng; omega, ?_⟩)) (fun h2 => ?_)) (fun h1 => ?_)
  · rw [decide_eq_true ⟨h1, h2, Or.inl h3⟩] at h; exact h
  · rw [show decide (a - f.Vars < (f.Nodes.length : Int)) = decide (0 ≤ f.Vars ∧ 0 ≤ a ∧ (a < f.Vars ∨ a - f.Vars < f.Nodes.length)) from decide_eq_decide.2 (by omega)]; exact h
  · rw [decide_eq_false (fun hh => h2 hh.2.1)] at h; exact h
  · rw [decide_eq_false (fun hh => h1 hh.1)] at h; exact h
theorem ref08_Valid_s {f : GFormula} {a : Int} {Q : Bool → Prop} (ha : rng a) (h : Q (validB f a)) : ref08_Valid_W f a Q := formula_Valid_s ha h
theorem isSome_errO {e : Int} : (errO e).isSome = decide (e ≠ 0) := by
  unfold errO
  by_cases h : e = 0
  · rw [if_pos h, decide_eq_false (fun hh => hh h)]; rfl
  · rw [if_neg h, decide_eq_true h]; rfl
theorem formula_Check_s {f : GFormula} {Q : Option Int → Prop} (ht : rng f.Top) (h : Q (errO (chkM f))) : formula_Check_W f Q := by
  unfold chkM at h
  refine ⟨fun y => y = decide (f.Vars < 0 ∨ 24 < f.Vars), ?_, ?_⟩
  · exact condT (fun hc => (decide_eq_true (Or.inl hc)).symm) (fun hc => decide_eq_decide.2 ⟨Or.inr, fun hh => hh.resolve_left hc⟩)
  rintro _ rfl
  refine condT (fun hc => ?_) (fun hc => ?_)
  · rw [if_pos hc] at h; exact h
  rw [if_neg hc] at h
  refine condT (fun hc2 => ?_) (fun hc2 => ?_)
  · rw [if_pos (by omega)] at h; exact h
  rw [if_neg (by omega)] at h
  refine scanW (fun i => nodeE f i ≠ 0) (by omega) (fun i next hi hI hnx => ?_) (fun hall => ?_)
  · refine formula_checkNode_s hi (by omega) (by omega) ?_
    rw [isSome_errO]
    refine condT (fun he => ?_) (fun he => hnx he)
    rw [firstE_hit (fun j hj => Decidable.not_not.1 (hI j hj)) he _ hi, if_pos he] at h
    exact h
  · rw [if_neg (fun hh => hh (firstE_zero.2 fun j hj => Decidable.not_not.1 (hall j hj)))] at h
    refine formula_Valid_s ht (condB (fun hb => ?_) (fun hb => ?_))
    · rw [if_pos (by simpa using hb)] at h; exact h
    · rw [if_neg (by simpa using hb)] at h; exact h
theorem ref08_Check_s {f : GFormula} {Q : Int → Prop} (ht : rng f.Top) (h : Q (chkM f)) : ref08_Check_W f Q := by
  unfold chkM at h
  refine condT (fun hc => ?_) (fun hc => condT (fun hc1 => ?_) (fun hc1 => ?_))
  · rw [if_pos (Or.inl hc)] at h; exact h
  · rw [if_pos (Or.inr hc1)] at h; exact h
  rw [if_neg (by omega)] at h
  refine condT (fun hc2 => ?_) (fun hc2 => ?_)
  · rw [if_pos (by omega)] at h; exact h
  rw [if_neg (by omega)] at h
  refine scanW (fun i => nodeE f i ≠ 0) (by omega) (fun i next hi hI hnx => ?_) (fun hall => ?_)
  · refine ref08_node_s hi (by omega) (by omega) (condN (fun he => ?_) (fun he => hnx (fun hh => hh he)))
    rw [firstE_hit (fun j hj => Decidable.not_not.1 (hI j hj)) he _ hi, if_pos he] at h
    exact h
  · rw [if_neg (fun hh => hh (firstE_zero.2 fun j hj => Decidable.not_not.1 (hall j hj)))] at h
    refine ref08_Valid_s ht (condB (fun hb => ?_) (fun hb => ?_))
    · rw [if_pos (by simpa using hb)] at h; exact h
    · rw [if_neg (by simpa using hb)] at h; exact h
/-- A formula that is accepted. -/
structure FG (f : GFormula) : Prop where
  v0 : 0 ≤ f.Vars
  v24 : f.Vars ≤ 24
  n128 : f.Nodes.length ≤ 128
  node : ∀ i, i < f.Nodes.length → nodeE f i = 0
  top0 : 0 ≤ f.Top
  top : f.Top < f.Vars + f.Nodes.length
theorem chk_ok {f : GFormula} : chkM f = 0 ↔ FG f := by
  unfold chkM
  constructor
  · intro h
    split at h
    · cases h
    split at h
    · cases h
    split at h
    · rename_i h3; exact absurd h h3
    split at h
    · cases h
    rename_i h1 h2 h3 h4
    rw [Decidable.not_not] at h3
    have h5 := firstE_zero.1 h3
    simp only [validB, Bool.not_eq_false, decide_eq_true_eq] at h4
    exact ⟨by omega, by omega, by omega, h5, by omega, by omega⟩
  · intro h
    rw [if_neg (by have := h.v0; have := h.v24; omega), if_neg (by have := h.n128; omega), if_neg (fun hh => hh (firstE_zero.2 h.node)), if_neg]
    have := h.v0; have := h.top0; have := h.top
    simp only [validB, Bool.not_eq_false, decide_eq_true_eq]
    omega
/-- A node that is accepted. -/
structure NG (f : GFormula) (i : Nat) : Prop where
  k0 : 0 ≤ (at' f.Nodes (i : Int)).Kind
  k5 : (at' f.Nodes (i : Int)).Kind ≤ 5
  len : (at' f.Nodes (i : Int)).Args.length ≤ 16
  arg : ∀ j : Nat, j < (at' f.Nodes (i : Int)).Args.length → 0 ≤ at' (at' f.Nodes (i : Int)).Args (j : Int) ∧ at' (at' f.Nodes (i : Int)).Args (j : Int) < f.Vars + i
  args : argsB (at' f.Nodes (i : Int)).Kind (at' f.Nodes (i : Int)).Args.length = true
theorem nodeE_ok {f : GFormula} {i : Nat} (h : nodeE f i = 0) : NG f i := by
  unfold nodeE at h
  split at h
  · cases h
  split at h
  · cases h
  split at h
  · cases h
  rename_i h1 h2 h3
  refine ⟨by omega, by omega, argsB_le (by simpa using h2), fun j hj => ?_, by simpa using h2⟩
  rw [not_exists] at h3
  have := h3 j
  simp only [hj, true_and, not_or] at this
  omega
end Go.Gg
namespace Go.Gg
theorem and_one64' {y : Int} (h0 : 0 ≤ y) (h1 : y < 4294967296) : bits .and .i64 y 1 = y % 2 := by
  obtain ⟨m, rfl⟩ := Int.eq_ofNat_of_zero_le h0
  show IntKind.i64.wrap (((BitVec.ofInt 64 (m : Int)) &&& (BitVec.ofInt 64 1)).toNat : Int) = _
  rw [BitVec.toNat_and, BitVec.toNat_ofInt, BitVec.toNat_ofInt]
  have e1 : ((m : Int) % ((2 ^ 64 : Nat) : Int)).toNat = m := by omega
  have e2 : ((1 : Int) % ((2 ^ 64 : Nat) : Int)).toNat = 1 := by omega
  rw [e1, e2, Nat.and_one_is_mod]
  have e3 : m % 2 = 0 ∨ m % 2 = 1 := by omega
  have e4 : (m : Int) % 2 = ((m % 2 : Nat) : Int) := by omega
  rw [e4]
  rcases e3 with e | e <;> rw [e] <;> rfl
/-- Event i is in the set s. -/
def inS (s i : Nat) : Bool := decide (s / 2 ^ i % 2 = 1)
theorem bit_in {s k : Nat} (hx : s < 4294967296) : (bits .and .i64 ((s : Int) / 2 ^ (Int.toNat (k : Int))) 1 == 1) = inS s k := by
  have e : ((s : Int) / 2 ^ (Int.toNat (k : Int))) = ((s / 2 ^ k : Nat) : Int) := by rw [Int.toNat_natCast]; simp
  have := Nat.div_le_self s (2 ^ k)
  unfold inS
  rw [e]
  generalize s / 2 ^ k = z at this
  rw [and_one64' (by omega) (by omega), Bool.eq_iff_iff]
  simp only [beq_iff_eq, decide_eq_true_eq]
  omega
/-- How many of the first j arguments are true. -/
def cnt (x : GNode) (v : List Bool) : Nat → Nat
  | 0 => 0
  | j + 1 => cnt x v j + (if at' v (at' x.Args (j : Int)) = true then 1 else 0)
def kindV (x : GNode) (n : Nat) : Bool :=
  if x.Kind = 0 then x.K == 1 else if x.Kind = 1 then (n : Int) == 0 else if x.Kind = 2 then (n : Int) == (x.Args.length : Int) else if x.Kind = 3 then decide ((0 : Int) < n)
  else if x.Kind = 4 then decide (x.K ≤ n) else Int.tmod n 2 == 1
def nodeV (x : GNode) (v : List Bool) : Bool := kindV x (cnt x v x.Args.length)
def vals (f : GFormula) (s : Nat) : Nat → List Bool
  | 0 => (List.range f.Vars.toNat).map (inS s)
  | i + 1 => vals f s i ++ [nodeV (at' f.Nodes (i : Int)) (vals f s i)]
/-- The value of a formula for a set. -/
def FV (f : GFormula) (s : Nat) : Bool := at' (vals f s f.Nodes.length) f.Top
theorem vals_len {f : GFormula} {s : Nat} : ∀ i, (vals f s i).length = f.Vars.toNat + i
  | 0 => by simp [vals]
  | i + 1 => by rw [vals, List.length_append, vals_len i]; simp; omega
theorem at_app_left {α : Type} [Inhabited α] {l m : List α} {i : Int} (h0 : 0 ≤ i) (h : i < l.length) : at' (l ++ m) i = at' l i := by
  obtain ⟨k, rfl⟩ := Int.eq_ofNat_of_zero_le h0
  have : k < l.length := by omega
  simp [at', List.getD_eq_getElem?_getD, List.getElem?_append, this]
theorem at_app_mid {α : Type} [Inhabited α] {l : List α} {x : α} : at' (l ++ [x]) (l.length : Int) = x := by
  simp [at', List.getD_eq_getElem?_getD]
theorem vals_pre {f : GFormula} {s m : Nat} {a : Int} (h0 : 0 ≤ a) (h : a < f.Vars.toNat + m) : ∀ n, m ≤ n → at' (vals f s n) a = at' (vals f s m) a
  | 0, hn => by obtain rfl : m = 0 := by omega
                rfl
  | n + 1, hn => by
    rcases Nat.lt_or_ge n m with h1 | h1
    · obtain rfl : m = n + 1 := by omega
      rfl
    · rw [vals, at_app_left h0 (by rw [vals_len]; omega), vals_pre h0 h n h1]
theorem cnt_le {x : GNode} {v : List Bool} : ∀ j, cnt x v j ≤ j
  | 0 => Nat.le_refl _
  | j + 1 => by have := cnt_le (x := x) (v := v) j; rw [cnt]; split <;> omega
theorem at_set {α : Type} [Inhabited α] {l : List α} {i : Nat} {x : α} {j : Nat} (h : i < l.length) : at' (set' l (i : Int) x) (j : Int) = if j = i then x else at' l (j : Int) := by
  simp only [at', set', Int.toNat_natCast, List.getD_eq_getElem?_getD, List.getElem?_set]
  by_cases hij : i = j
  · subst hij; simp [h]
  · rw [if_neg hij, if_neg (fun e => hij e.symm)]
theorem set_len {α : Type} {l : List α} {i : Int} {x : α} : (set' l i x).length = l.length := by simp [set']
end Go.Gg
namespace Go.Gg
theorem cnt_congr {x : GNode} {v w : List Bool} : ∀ j, (∀ k : Nat, k < j → at' v (at' x.Args (k : Int)) = at' w (at' x.Args (k : Int))) → cnt x v j = cnt x w j
  | 0, _ => rfl
  | j + 1, h => by rw [cnt, cnt, cnt_congr j (fun k hk => h k (by omega)), h j (by omega)]
/-- The values of all nodes. -/
def nodesV (f : GFormula) (s : Nat) : List Bool := (List.range f.Nodes.length).map fun k : Nat => at' (vals f s f.Nodes.length) (f.Vars + (k : Int))
theorem nodesV_at {f : GFormula} {s k : Nat} (h : k < f.Nodes.length) : at' (nodesV f s) (k : Int) = at' (vals f s f.Nodes.length) (f.Vars + k) := by
  unfold nodesV
  simp [at', List.getD_eq_getElem?_getD, h]
theorem vals_node {f : GFormula} {s i : Nat} (v0 : 0 ≤ f.Vars) (h : i < f.Nodes.length) : at' (vals f s f.Nodes.length) (f.Vars + i) = nodeV (at' f.Nodes (i : Int)) (vals f s i) := by
  rw [vals_pre (m := i + 1) (by omega) (by omega) _ (by omega), vals]
  have e : f.Vars + (i : Int) = ((vals f s i).length : Int) := by rw [vals_len]; omega
  rw [e, at_app_mid]
theorem vals_bit {f : GFormula} {s : Nat} {a : Int} (h0 : 0 ≤ a) (h : a < f.Vars) (n : Nat) : at' (vals f s n) a = inS s a.toNat := by
  rw [vals_pre (m := 0) h0 (by omega) n (by omega)]
  obtain ⟨k, rfl⟩ := Int.eq_ofNat_of_zero_le h0
  show at' ((List.range f.Vars.toNat).map (inS s)) (k : Int) = _
  simp [at', List.getD_eq_getElem?_getD, show k < f.Vars.toNat by omega]
theorem ref08_Of_r {f : GFormula} {s i : Nat} {l : List Bool} {a : Int} {Q : List Bool → Bool → Prop} (g : FG f) (hs : s < 4294967296) (hi : i ≤ f.Nodes.length) (hl : l.length = f.Nodes.length) (hI : ∀ k : Nat, k < i → at' l (k : Int) = at' (vals f s f.Nodes.length) (f.Vars + k))
    (ha : 0 ≤ a ∧ a < f.Vars + i) (h : Q l (at' (vals f s f.Nodes.length) a)) : ref08_Of__r1_W f l 0 l.length s a Q := by
  have v0 := g.v0
  have v24 := g.v24
  have n128 := g.n128
  refine condT (fun hc => ⟨⟨by omega, by omega⟩, ?_⟩) (fun hc => ⟨by unfold rng; omega, ⟨by omega, by omega⟩, by omega, ?_⟩)
  · obtain ⟨k, rfl⟩ := Int.eq_ofNat_of_zero_le ha.1
    rw [vals_bit ha.1 hc] at h
    rw [bit_in hs]
    exact h
  · have e : (((0 : Nat) : Int) + (a - f.Vars)) = ((a - f.Vars).toNat : Int) := by omega
    rw [e, hI _ (by omega)]
    have e2 : f.Vars + ((a - f.Vars).toNat : Int) = a := by omega
    rw [e2]; exact h
theorem ref08_Of_s {f : GFormula} {s : Nat} {a : Int} {Q : Bool → Prop} (g : FG f) (hs : s < 4294967296) (ha : 0 ≤ a ∧ a < f.Vars + f.Nodes.length) (h : Q (at' (vals f s f.Nodes.length) a)) : ref08_Of_W f (nodesV f s) s a Q := by
  have v0 := g.v0
  have v24 := g.v24
  have n128 := g.n128
  have hl : (nodesV f s).length = f.Nodes.length := by simp [nodesV]
  refine condT (fun hc => ⟨⟨by omega, by omega⟩, ?_⟩) (fun hc => ⟨by unfold rng; omega, ⟨by omega, by omega⟩, ?_⟩)
  · obtain ⟨k, rfl⟩ := Int.eq_ofNat_of_zero_le ha.1
    rw [vals_bit ha.1 hc] at h
    rw [bit_in hs]
    exact h
  · have e : a - f.Vars = ((a - f.Vars).toNat : Int) := by omega
    rw [e, nodesV_at (by omega)]
    have e2 : f.Vars + ((a - f.Vars).toNat : Int) = a := by omega
    rw [e2]; exact h
theorem ref08_Values_s {f : GFormula} {s : Nat} {Q : List Bool → Prop} (g : FG f) (hs : s < 4294967296) (h : Q (nodesV f s)) : ref08_Values_W f s Q := by
  have v0 := g.v0
  have v24 := g.v24
  have n128 := g.n128
  refine ⟨⟨by omega, by omega, by omega, by omega⟩, ?_⟩
  refine loopInv (n := f.Nodes.length) (fun i y => y.1 = (i : Int) ∧ y.2.length = f.Nodes.length ∧ ∀ k : Nat, k < i → at' y.2 (k : Int) = at' (vals f s f.Nodes.length) (f.Vars + k)) (fun y => y.1) 0 (fun i y hy => by rw [hy.1]; omega) ⟨rfl, by simp [rep'], fun k hk => absurd hk (by omega)⟩ ?_ ?_
  · rintro i ⟨x, l⟩ next hi ⟨rfl, hl, hI⟩ hn
    dsimp only at hl hI
    have N := nodeE_ok (g.node i hi)
    have hlen := N.len
    have hset : ∀ b, b = nodeV (at' f.Nodes (i : Int)) (vals f s i) → (((0 : Int) ≤ (i : Int) ∧ (i : Int) < (l.length : Int)) ∧ rng ((i : Int) + 1) ∧ next (((i : Int) + 1), set' l (i : Int) b)) := by
      rintro b rfl
      refine ⟨⟨by omega, by omega⟩, by unfold rng; omega, hn _ ⟨rfl, by rw [set_len]; exact hl, fun k hk => ?_⟩⟩
      dsimp only
      rw [at_set (by omega)]
      by_cases hki : k = i
      · rw [if_pos hki, hki, vals_node v0 hi]
      · rw [if_neg hki]; exact hI k (by omega)
    refine condT (fun hc => ⟨⟨by omega, by omega⟩, ?_⟩) (fun hc => absurd (show (i : Int) < (f.Nodes.length : Int) by omega) hc)
    have hcc : ∀ j, j ≤ (at' f.Nodes (i : Int)).Args.length → cnt (at' f.Nodes (i : Int)) (vals f s f.Nodes.length) j = cnt (at' f.Nodes (i : Int)) (vals f s i) j := fun j hj => cnt_congr j fun k hk => by
      have ha := N.arg k (by omega)
      exact vals_pre ha.1 (by omega) _ (by omega)
    refine loopUp (n := (at' f.Nodes (i : Int)).Args.length) (fun j => ((cnt (at' f.Nodes (i : Int)) (vals f s f.Nodes.length) j : Int), (j : Int), l)) (fun y => y.2.1) 0 (fun j => by dsimp only; omega) rfl ?_ ?_
    · intro j next2 hj hn2
      have ha := N.arg j hj
      have hcl := cnt_le (x := at' f.Nodes (i : Int)) (v := vals f s f.Nodes.length) j
      refine condT (fun hc => ⟨⟨by omega, by omega⟩, ref08_Of_r g hs (by omega) hl hI ha ⟨rfl, condB (fun hb => ⟨by unfold rng; omega, by unfold rng; omega, ?_⟩) (fun hb => ⟨by unfold rng; omega, ?_⟩)⟩⟩) (fun hc => absurd (show (j : Int) < ((at' f.Nodes (i : Int)).Args.length : Int) by omega) hc)
      · rw [cnt, if_pos hb] at hn2; exact hn2
      · rw [cnt, if_neg (by rw [hb]; simp)] at hn2; exact hn2
    · intro next2
      refine condT (fun hc => absurd hc (by omega)) (fun _ => ?_)
      have k5 := N.k5
      have k0 := N.k0
      have hc := hcc _ (Nat.le_refl _)
      rw [hc]
      unfold nodeV kindV at hset
      exact condE (fun h0 => hset _ (by rw [if_pos h0])) (fun h0 => condE (fun h1 => hset _ (by rw [if_neg h0, if_pos h1])) (fun h1 => condE (fun h2 => hset _ (by rw [if_neg h0, if_neg h1, if_pos h2])) (fun h2 => condE (fun h3 => hset _ (by rw [if_neg h0, if_neg h1, if_neg h2, if_pos h3])) (fun h3 => condE (fun h4 => hset _ (by rw [if_neg h0, if_neg h1, if_neg h2, if_neg h3, if_pos h4])) (fun h4 => hset _ (by rw [if_neg h0, if_neg h1, if_neg h2, if_neg h3, if_neg h4]))))))
  · rintro ⟨x, l⟩ next ⟨rfl, hl, hI⟩
    dsimp only at hl hI
    refine condT (fun hc => absurd hc (by omega)) (fun _ => ?_)
    have : l = nodesV f s := eq_by (by simp [nodesV, hl]) fun k hk => by rw [hI k (by omega), nodesV_at (by omega)]
    rw [this]; exact h
theorem ref08_Value_s {f : GFormula} {s : Nat} {Q : Bool → Prop} (g : FG f) (hs : s < 4294967296) (h : Q (FV f s)) : ref08_Value_W f s Q :=
  ⟨_, ref08_Values_s g hs rfl, _, ref08_Of_s g hs ⟨g.top0, g.top⟩ rfl, h⟩
end Go.Gg
/- Orders of events: the program's and the reference's functions. Conditions: none. -/
namespace Go.Gg
/-- The number of the error of a place of an order. -/
def plE (o : List Int) (n : Int) (i : Nat) : Int :=
  if at' o (i : Int) < 0 ∨ n ≤ at' o (i : Int) then 3 else if ∃ k < i, at' o (k : Int) = at' o (i : Int) then 6 else 0
/-- The number of the first error of an order of so many events. -/
def ordE (o : List Int) (n : Int) : Int := if n < 0 ∨ 24 < n then 3 else if (o.length : Int) ≠ n then 11 else firstE (plE o n) o.length
theorem ref14_Check_s {o : List Int} {n : Int} {Q : Int → Prop} (h : Q (ordE o n)) : ref14_Check_W o n Q := by
  unfold ordE at h
  refine condT (fun h0 => ?_) (fun h0 => condT (fun h1 => ?_) (fun h1 => condN (fun h2 => ?_) (fun h2 => ?_)))
  · rw [if_pos (.inl h0)] at h; exact h
  · rw [if_pos (.inr h1)] at h; exact h
  · rw [if_neg (by omega), if_pos h2] at h; exact h
  · rw [if_neg (by omega), if_neg (by omega)] at h
    subst h2
    refine scanW (n := o.length) (fun i => plE o o.length i ≠ 0) (by omega) (fun i next hi hI hn => ?_) (fun hI => ?_)
    · have hz : ∀ j, j < i → plE o o.length j = 0 := fun j hj => by have := hI j hj; omega
      have hit : ∀ e, plE o o.length i = e → e ≠ 0 → Q e := fun e he hne => by
        have := firstE_hit hz (by rw [he]; exact hne) o.length hi
        rw [this, he] at h
        exact h
      refine ⟨⟨by omega, by omega⟩, condT (fun h3 => hit 3 (by rw [plE, if_pos (.inl h3)]) (by decide)) (fun h3 => ⟨⟨by omega, by omega⟩, condT (fun h4 => hit 3 (by rw [plE, if_pos (.inr h4)]) (by decide)) (fun h4 => ?_)⟩)⟩
      refine scanW (n := i) (fun k => at' o (k : Int) = at' o (i : Int)) (by omega) (fun k next2 hk hK hn2 => ?_) (fun hK => ?_)
      · exact ⟨⟨by omega, by omega⟩, ⟨by omega, by omega⟩, condE (fun h5 => hit 6 (by rw [plE, if_neg (by omega), if_pos ⟨k, hk, h5⟩]) (by decide)) (fun h5 => hn2 h5)⟩
      · exact hn (by rw [plE, if_neg (by omega), if_neg (fun ⟨k, hk, h5⟩ => hK k hk h5)]; simp)
    · have : firstE (plE o o.length) o.length = 0 := firstE_zero.2 fun i hi => by have := hI i hi; omega
      rw [this] at h
      exact h
theorem order_Check_s {o : List Int} {n : Int} {Q : Option Int → Prop} (h : Q (errO (ordE o n))) : order_Check_W o n Q := by
  unfold ordE at h
  refine ⟨fun b => b = decide (n < 0 ∨ 24 < n), condT (fun h0 => ?_) (fun h0 => ?_), fun b hb => ?_⟩
  · rw [decide_eq_true (.inl h0)]
  · exact decide_eq_decide.2 (by omega)
  subst hb
  refine condT (fun h0 => ?_) (fun h0 => condN (fun h2 => ?_) (fun h2 => ?_))
  · rw [if_pos h0] at h; exact h
  · rw [if_neg h0, if_pos h2] at h; exact h
  · rw [if_neg h0, if_neg (by omega)] at h
    subst h2
    refine ⟨⟨by omega, by omega, by omega⟩, ?_⟩
    refine loopInv (n := o.length) (fun i y => (y.1 = (i : Int) ∧ ∀ j, j < i → plE o o.length j = 0) ∧ y.2.length = o.length ∧ ∀ v : Nat, v < o.length → (at' y.2 (v : Int) = true ↔ ∃ k < i, at' o (k : Int) = (v : Int))) (fun y => y.1) 0
      (fun i y hy => by rw [hy.1.1]; omega) ⟨⟨rfl, fun j hj => absurd hj (by omega)⟩, by simp [rep'], fun v hv => ?_⟩ ?_ ?_
    · constructor
      · intro hb
        simp [at', rep', List.getD_eq_getElem?_getD, hv] at hb
      · rintro ⟨k, hk, _⟩; omega
    · rintro i ⟨x, seen⟩ next hi ⟨⟨hx, hz⟩, hl, hs⟩ hn
      dsimp only at hx hl hs
      subst hx
      have hit : ∀ e, plE o o.length i = e → e ≠ 0 → Q (errO e) := fun e he hne => by
        have := firstE_hit hz (by rw [he]; exact hne) o.length hi
        rw [this, he] at h
        exact h
      refine condT (fun _ => ⟨⟨by omega, by omega⟩, fun b => b = decide (at' o (i : Int) < 0 ∨ (o.length : Int) ≤ at' o (i : Int)), condT (fun h3 => ?_) (fun h3 => ?_), fun b hb => ?_⟩) (fun hc => absurd (show (i : Int) < o.length by omega) hc)
      · rw [decide_eq_true (.inl h3)]
      · exact decide_eq_decide.2 (by omega)
      subst hb
      refine condT (fun h3 => hit 3 (by rw [plE, if_pos h3]) (by decide)) (fun h3 => ⟨by omega, ?_⟩)
      obtain ⟨v, hv⟩ : ∃ v : Nat, at' o (i : Int) = v := ⟨(at' o (i : Int)).toNat, by omega⟩
      have hvl : v < o.length := by omega
      rw [hv]
      have hsv := hs v hvl
      refine condB (fun h4 => hit 6 (by rw [plE, if_neg h3, hv, if_pos (hsv.1 h4)]) (by decide)) (fun h4 => ⟨by omega, by unfold rng; omega, hn _ ⟨⟨by dsimp only; omega, fun j hj => ?_⟩, by dsimp only; rw [set_len]; exact hl, fun u hu => ?_⟩⟩)
      · rcases Nat.lt_or_ge j i with h5 | h5
        · exact hz j h5
        · obtain rfl : j = i := by omega
          rw [plE, if_neg h3, hv, if_neg (fun hc => by rw [hsv.2 hc] at h4; cases h4)]
      · dsimp only
        rw [at_set (by omega)]
        split
        · rename_i he
          subst he
          exact ⟨fun _ => ⟨i, by omega, hv⟩, fun _ => rfl⟩
        · rename_i he
          rw [hs u hu]
          constructor
          · rintro ⟨k, hk, hk'⟩; exact ⟨k, by omega, hk'⟩
          · rintro ⟨k, hk, hk'⟩
            rcases Nat.lt_or_ge k i with h5 | h5
            · exact ⟨k, h5, hk'⟩
            · obtain rfl : k = i := by omega
              omega
    · rintro ⟨x, seen⟩ next ⟨⟨hx, hz⟩, _⟩
      dsimp only at hx
      subst hx
      refine condT (fun hc => absurd hc (by omega)) (fun _ => ?_)
      rw [firstE_zero.2 hz] at h
      exact h
/-- A list that has each event once. -/
structure Or14 (o : List Int) : Prop where
  le : o.length ≤ 24
  rg : ∀ i : Nat, i < o.length → 0 ≤ at' o (i : Int) ∧ at' o (i : Int) < o.length
  inj : ∀ i j : Nat, i < o.length → j < o.length → at' o (i : Int) = at' o (j : Int) → i = j
theorem ordE_zero {o : List Int} (h : ordE o o.length = 0) : Or14 o := by
  unfold ordE at h
  split at h
  · cases h
  · rw [if_neg (by simp)] at h
    have hz := firstE_zero.1 h
    have hp : ∀ i, i < o.length → (0 ≤ at' o (i : Int) ∧ at' o (i : Int) < o.length) ∧ ∀ k, k < i → at' o (k : Int) ≠ at' o (i : Int) := fun i hi => by
      have := hz i hi
      unfold plE at this
      split at this
      · cases this
      · split at this
        · cases this
        · rename_i h1 h2; exact ⟨by omega, fun k hk he => h2 ⟨k, hk, he⟩⟩
    refine ⟨by omega, fun i hi => (hp i hi).1, fun i j hi hj he => ?_⟩
    rcases Nat.lt_trichotomy i j with h1 | h1 | h1
    · exact absurd he ((hp j hj).2 i h1)
    · exact h1
    · exact absurd he.symm ((hp i hi).2 j h1)
theorem ordE_of {o : List Int} (h : Or14 o) : ordE o o.length = 0 := by
  have := h.le
  unfold ordE
  rw [if_neg (by omega), if_neg (by simp)]
  refine firstE_zero.2 fun i hi => ?_
  have := h.rg i hi
  rw [plE, if_neg (by omega), if_neg (fun ⟨k, hk, he⟩ => by have := h.inj k i (by omega) hi he; omega)]
/-! ### Each number has a place -/
theorem nodup_le : ∀ (m : Nat) (l : List Nat), l.Nodup → (∀ x ∈ l, x < m) → l.length ≤ m
  | 0, l, _, h => by
    cases l with
    | nil => simp
    | cons x l => have := h x (by simp); omega
  | m + 1, l, hd, h => by
    by_cases hm : m ∈ l
    · have h1 := nodup_le m (l.erase m) (hd.erase m) (fun x hx => by
        have h2 := h x (List.mem_of_mem_erase hx)
        have h3 : x ≠ m := fun he => by subst he; exact (hd.not_mem_erase) hx
        omega)
      have := List.length_erase_of_mem hm
      omega
    · have := nodup_le m l hd (fun x hx => by
        have h2 := h x hx
        have h3 : x ≠ m := fun he => hm (he ▸ hx)
        omega)
      omega
theorem nodup_all {l : List Nat} (hd : l.Nodup) (h : ∀ x ∈ l, x < l.length) {v : Nat} (hv : v < l.length) : v ∈ l := by
  by_cases hm : v ∈ l
  · exact hm
  · exfalso
    have h1 := nodup_le l.length (v :: l) (List.nodup_cons.2 ⟨hm, hd⟩) (fun x hx => by
      rcases List.mem_cons.1 hx with rfl | hx
      · exact hv
      · exact h x hx)
    simp at h1
    omega
def natO (o : List Int) : List Nat := o.map Int.toNat
def levO (o : List Int) : Nat → Nat := fun v => (natO o).idxOf v
section
variable {o : List Int}
theorem natO_len : (natO o).length = o.length := by simp [natO]
theorem natO_at {i : Nat} (h : i < o.length) : (natO o)[i]? = some (at' o (i : Int)).toNat := by
  simp [natO, at', List.getD_eq_getElem?_getD, List.getElem?_eq_getElem h]
theorem Or14.nodup (h : Or14 o) : (natO o).Nodup := by
  rw [List.Nodup, List.pairwise_iff_getElem]
  intro i j hi hj hij he
  rw [natO_len] at hi hj
  have h1 := natO_at hi
  have h2 := natO_at hj
  rw [List.getElem?_eq_getElem (by rw [natO_len]; exact hi)] at h1
  rw [List.getElem?_eq_getElem (by rw [natO_len]; exact hj)] at h2
  have h3 := Option.some.inj h1
  have h4 := Option.some.inj h2
  have h5 := h.rg i hi
  have h6 := h.rg j hj
  have := h.inj i j hi hj (by omega)
  omega
theorem Or14.all (h : Or14 o) {v : Nat} (hv : v < o.length) : v ∈ natO o := by
  refine nodup_all h.nodup (fun x hx => ?_) (by rw [natO_len]; exact hv)
  obtain ⟨i, hi⟩ := List.mem_iff_getElem?.1 hx
  have hil : i < o.length := by have := (List.getElem?_eq_some_iff.1 hi).1; rwa [natO_len] at this
  rw [natO_at hil] at hi
  have := h.rg i hil
  rw [natO_len]
  have := Option.some.inj hi
  omega
theorem Or14.lev_at (h : Or14 o) {i : Nat} (hi : i < o.length) : levO o (at' o (i : Int)).toNat = i := by
  have h1 := natO_at hi
  have hil : i < (natO o).length := by rw [natO_len]; exact hi
  rw [List.getElem?_eq_getElem hil] at h1
  unfold levO
  rw [← Option.some.inj h1]
  exact h.nodup.idxOf_getElem i hil
theorem Or14.at_lev (h : Or14 o) {v : Nat} (hv : v < o.length) : levO o v < o.length ∧ at' o (levO o v : Int) = v := by
  have hm := h.all hv
  have hl : levO o v < (natO o).length := List.idxOf_lt_length_of_mem hm
  have hl' : levO o v < o.length := by rwa [natO_len] at hl
  refine ⟨hl', ?_⟩
  have h1 := natO_at hl'
  rw [List.getElem?_eq_getElem hl] at h1
  have h2 : (natO o)[levO o v] = v := List.getElem_idxOf hl
  rw [h2] at h1
  have := h.rg _ hl'
  have := Option.some.inj h1
  omega
theorem Or14.ord (h : Or14 o) : OrdL o.length (levO o) (natO o) := by
  refine ⟨⟨fun i j hi hj he => ?_, fun i hi => (h.at_lev hi).1⟩, natO_len, fun i v hi => ?_, fun v hv => ?_⟩
  · have h1 := (h.at_lev hi).2
    have h2 := (h.at_lev hj).2
    rw [he] at h1
    omega
  · have hil : i < o.length := by have := (List.getElem?_eq_some_iff.1 hi).1; rwa [natO_len] at this
    rw [natO_at hil] at hi
    have h1 := Option.some.inj hi
    have h2 := h.rg i hil
    exact ⟨by omega, by rw [← h1]; exact h.lev_at hil⟩
  · have h1 := h.at_lev hv
    rw [natO_at h1.1, h1.2]
    rfl
theorem order_places_s {Q : List Int → Prop} (h : Or14 o) (hQ : ∀ r : List Int, r.length = o.length → (∀ v : Nat, v < o.length → at' r (v : Int) = (levO o v : Int)) → Q r) : order_places_W o Q := by
  have hle := h.le
  refine ⟨⟨by omega, by omega, by omega⟩, ?_⟩
  refine loopInv (n := o.length) (fun i y => y.1 = (i : Int) ∧ y.2.length = o.length ∧ ∀ v : Nat, v < o.length → levO o v < i → at' y.2 (v : Int) = (levO o v : Int)) (fun y => y.1) 0 (fun i y hy => by rw [hy.1]; omega) ⟨rfl, by simp [rep'], fun v hv hl => absurd hl (by omega)⟩ ?_ ?_
  · rintro i ⟨x, out⟩ next hi ⟨hx, hl, hI⟩ hn
    dsimp only at hx hl hI
    subst hx
    have hr := h.rg i hi
    obtain ⟨v, hv⟩ : ∃ v : Nat, at' o (i : Int) = v := ⟨(at' o (i : Int)).toNat, by omega⟩
    have hlv := h.lev_at hi
    rw [hv, Int.toNat_natCast] at hlv
    refine condT (fun _ => ⟨⟨by omega, by omega⟩, by omega, by unfold rng; omega, hn _ ⟨by dsimp only; omega, by dsimp only; rw [set_len]; exact hl, fun u hu hul => ?_⟩⟩) (fun hc => absurd (show (i : Int) < o.length by omega) hc)
    dsimp only
    rw [hv, at_set (by omega)]
    split
    · rename_i he; subst he; rw [hlv]
    · rename_i he
      refine hI u hu ?_
      rcases Nat.lt_or_ge (levO o u) i with h5 | h5
      · exact h5
      · have h6 := (h.at_lev hu).2
        rw [show levO o u = i by omega, hv] at h6
        omega
  · rintro ⟨x, out⟩ next ⟨hx, hl, hI⟩
    dsimp only at hx hl hI
    subst hx
    exact condT (fun hc => absurd hc (by omega)) (fun _ => hQ out hl fun v hv => hI v hv (h.at_lev hv).1)
theorem order_Positions_s {Q : List Int → Option Int → Prop} (h1 : ordE o o.length ≠ 0 → Q [] (errO (ordE o o.length))) (h2 : Or14 o → ∀ r : List Int, r.length = o.length → (∀ v : Nat, v < o.length → at' r (v : Int) = (levO o v : Int)) → Q r none) : order_Positions_W o Q := by
  refine order_Check_s ?_
  by_cases h0 : ordE o o.length = 0
  · rw [h0]
    refine condB (fun hb => by cases hb) (fun _ => order_places_s (ordE_zero h0) (h2 (ordE_zero h0)))
  · have : Option.isSome (errO (ordE o o.length)) = true := by simp [errO, h0]
    exact condB (fun _ => h1 h0) (fun hb => by rw [this] at hb; cases hb)
theorem ref14_Place_s {l : List Int} {n : Int} {Q : Int → Prop} (hl : l.length ≤ 9223372036854775807) (h1 : ∀ i : Nat, i < l.length → at' l (i : Int) = n → (∀ j : Nat, j < i → at' l (j : Int) ≠ n) → Q (i : Int)) (h2 : n ∉ l → Q (-1)) : ref14_Place_W l n Q := by
  refine scanW (n := l.length) (fun i => at' l (i : Int) = n) hl (fun i next hi hI hn => ⟨⟨by omega, by omega⟩, condE (fun he => h1 i hi he hI) (fun he => hn he)⟩) (fun hI => h2 fun hm => ?_)
  obtain ⟨i, hi⟩ := List.mem_iff_getElem?.1 hm
  have hil := (List.getElem?_eq_some_iff.1 hi).1
  exact hI i hil (by simp [at', List.getD_eq_getElem?_getD, hi])
theorem Or14.place (h : Or14 o) {v : Nat} {Q : Int → Prop} (hv : v < o.length) (hQ : Q (levO o v : Int)) : ref14_Place_W o (v : Int) Q := by
  have hle := h.le
  have h1 := h.at_lev hv
  refine ref14_Place_s (by omega) (fun i hi he _ => ?_) (fun hm => absurd (by rw [← h1.2]; unfold at'; rw [List.getD_eq_getElem?_getD, Int.toNat_natCast, List.getElem?_eq_getElem h1.1]; exact List.getElem_mem h1.1) hm)
  have : i = levO o v := h.inj i _ hi h1.1 (by rw [he, h1.2])
  rw [this]
  exact hQ
end
end Go.Gg
/- Diagrams: Check, the program's and the reference's. Conditions: none. -/
namespace Go.Gg
theorem node_ext {x y : GDNode} : [x.Var, x.Lo, x.Hi] = [y.Var, y.Lo, y.Hi] ↔ x = y := by
  cases x; cases y
  simp
/-- A reference is a constant, or its event is behind another one. -/
def behB (o : List Int) (N : List GDNode) (r v : Int) : Bool := decide (r < 2) || decide (levO o v.toNat < levO o (at' N (r - 2)).Var.toNat)
/-- The number of the error of a node by itself. -/
def ndE0 (o : List Int) (N : List GDNode) (i : Nat) : Int :=
  if ((at' N (i : Int)).Var < 0 ∨ (o.length : Int) ≤ (at' N (i : Int)).Var) ∨ ((at' N (i : Int)).Lo < 0 ∨ 1 + (i : Int) < (at' N (i : Int)).Lo) ∨ (at' N (i : Int)).Hi < 0 ∨ 1 + (i : Int) < (at' N (i : Int)).Hi then 10
  else if (at' N (i : Int)).Lo = (at' N (i : Int)).Hi then 2
  else if behB o N (at' N (i : Int)).Lo (at' N (i : Int)).Var = false ∨ behB o N (at' N (i : Int)).Hi (at' N (i : Int)).Var = false then 13 else 0
def ndE (o : List Int) (N : List GDNode) (i : Nat) : Int := if ndE0 o N i ≠ 0 then ndE0 o N i else if ∃ k < i, at' N (k : Int) = at' N (i : Int) then 6 else 0
/-- The number of the first error of a diagram. -/
def dgE (d : GDiagram) : Int :=
  if ordE d.Order d.Order.length ≠ 0 then ordE d.Order d.Order.length
  else if 4096 < d.Nodes.length then 4
  else if firstE (ndE d.Order d.Nodes) d.Nodes.length ≠ 0 then firstE (ndE d.Order d.Nodes) d.Nodes.length
  else if d.Root < 0 ∨ 1 + (d.Nodes.length : Int) < d.Root then 10
  else if numR d.Nodes d.Root.toNat [] = upto d.Nodes.length then 0 else 2
theorem ndE_facts {o : List Int} {N : List GDNode} {i : Nat} (h : ndE o N i = 0) :
    (0 ≤ (at' N (i : Int)).Var ∧ (at' N (i : Int)).Var < o.length) ∧ (0 ≤ (at' N (i : Int)).Lo ∧ (at' N (i : Int)).Lo < 2 + i) ∧ (0 ≤ (at' N (i : Int)).Hi ∧ (at' N (i : Int)).Hi < 2 + i) ∧ (at' N (i : Int)).Lo ≠ (at' N (i : Int)).Hi ∧
      behB o N (at' N (i : Int)).Lo (at' N (i : Int)).Var = true ∧ behB o N (at' N (i : Int)).Hi (at' N (i : Int)).Var = true ∧ ∀ k, k < i → at' N (k : Int) ≠ at' N (i : Int) := by
  unfold ndE at h
  split at h
  · rename_i h1; exact absurd h h1
  · rename_i h1
    split at h
    · cases h
    · rename_i h2
      have h0 : ndE0 o N i = 0 := by omega
      unfold ndE0 at h0
      split at h0
      · cases h0
      · rename_i h3
        split at h0
        · cases h0
        · rename_i h4
          split at h0
          · cases h0
          · rename_i h5
            exact ⟨by omega, by omega, by omega, h4, by simpa using fun hc => h5 (.inl hc), by simpa using fun hc => h5 (.inr hc), fun k hk he => h2 ⟨k, hk, he⟩⟩
section
variable {o : List Int} {N : List GDNode}
theorem diagram_checkNode_s {d : GDiagram} {i : Nat} {r : List Int} {Q : Option Int → Prop} (_hO : Or14 d.Order) (hl : d.Nodes.length ≤ 4096) (hi : i < d.Nodes.length) (hp : ∀ j, j < i → ndE d.Order d.Nodes j = 0) (hr : r.length = d.Order.length) (hr2 : ∀ v : Nat, v < d.Order.length → at' r (v : Int) = (levO d.Order v : Int))
    (h : Q (errO (ndE0 d.Order d.Nodes i))) : diagram_checkNode_W d r (i : Int) Q := by
  have hprev : ∀ r : Int, 0 ≤ r → r < 2 + i → 2 ≤ r → 0 ≤ (at' d.Nodes (r - 2)).Var ∧ (at' d.Nodes (r - 2)).Var < d.Order.length := fun r h0 h1 h2 => by
    have := (ndE_facts (hp (r - 2).toNat (by omega))).1
    rwa [show (((r - 2).toNat : Nat) : Int) = r - 2 by omega] at this
  refine ⟨⟨by omega, by omega⟩, fun b => b = decide (((at' d.Nodes (i : Int)).Var < 0 ∨ (d.Order.length : Int) ≤ (at' d.Nodes (i : Int)).Var) ∨ ((at' d.Nodes (i : Int)).Lo < 0 ∨ 1 + (i : Int) < (at' d.Nodes (i : Int)).Lo) ∨ (at' d.Nodes (i : Int)).Hi < 0 ∨ 1 + (i : Int) < (at' d.Nodes (i : Int)).Hi), ?_, ?_⟩
  · refine condT (fun h1 => ?_) (fun h1 => condT (fun h2 => ?_) (fun h2 => condT (fun h3 => ?_) (fun h3 => ⟨by unfold rng; omega, ?_⟩)))
    · exact (decide_eq_true (by omega)).symm
    · exact (decide_eq_true (by omega)).symm
    · exact (decide_eq_true (by omega)).symm
    · exact decide_eq_decide.2 (by omega)
  rintro b rfl
  refine condT (fun h1 => by rw [ndE0, if_pos h1] at h; exact h) (fun h1 => condE (fun h2 => by rw [ndE0, if_neg h1, if_pos h2] at h; exact h) (fun h2 => ?_))
  obtain ⟨v, hv⟩ : ∃ v : Nat, (at' d.Nodes (i : Int)).Var = v := ⟨(at' d.Nodes (i : Int)).Var.toNat, by omega⟩
  have hvl : v < d.Order.length := by omega
  have e0 : ndE0 d.Order d.Nodes i = if behB d.Order d.Nodes (at' d.Nodes (i : Int)).Lo (v : Int) = false ∨ behB d.Order d.Nodes (at' d.Nodes (i : Int)).Hi (v : Int) = false then 13 else 0 := by
    rw [ndE0, if_neg h1, if_neg h2, hv]
  rw [e0] at h
  generalize hlo : (at' d.Nodes (i : Int)).Lo = lo at h h1 h2 ⊢
  generalize hhi : (at' d.Nodes (i : Int)).Hi = hi' at h h1 h2 ⊢
  refine loopInv (n := 2) (fun k y => y = (k : Int) ∧ ∀ j : Nat, j < k → behB d.Order d.Nodes (at' [lo, hi'] (j : Int)) (v : Int) = true) (fun y => y) 0 (fun k y hy => by rw [hy.1]; omega) ⟨rfl, fun j hj => absurd hj (by omega)⟩ ?_ ?_
  · rintro k _ next hk ⟨rfl, hI⟩ hn
    have hin : 0 ≤ at' [lo, hi'] (k : Int) ∧ at' [lo, hi'] (k : Int) < 2 + i := by
      rcases (show k = 0 ∨ k = 1 by omega) with rfl | rfl
      · show 0 ≤ lo ∧ lo < 2 + (i : Int); omega
      · show 0 ≤ hi' ∧ hi' < 2 + (i : Int); omega
    have hbad : behB d.Order d.Nodes (at' [lo, hi'] (k : Int)) (v : Int) = false → Q (some 13) := fun hb => by
      rw [if_pos] at h
      · exact h
      · rcases (show k = 0 ∨ k = 1 by omega) with rfl | rfl
        · exact .inl hb
        · exact .inr hb
    refine condT (fun _ => ⟨⟨by omega, by simp; omega⟩, letIn ?_⟩) (fun hc => absurd (show (k : Int) < (2 : Nat) by omega) hc)
    generalize hq : at' [lo, hi'] (k : Int) = q at hin hbad hn ⊢
    refine ⟨fun b => b = !(behB d.Order d.Nodes q (v : Int)), condT (fun h3 => ?_) (fun h3 => ?_), ?_⟩
    · have hpv := hprev q (by omega) (by omega) h3
      obtain ⟨u, hu⟩ : ∃ u : Nat, (at' d.Nodes (q - 2)).Var = u := ⟨(at' d.Nodes (q - 2)).Var.toNat, by omega⟩
      have hul : u < d.Order.length := by omega
      refine ⟨by unfold rng; omega, ⟨by omega, by omega⟩, ⟨by omega, by omega⟩, ⟨by omega, by omega⟩, ?_⟩
      rw [hu, hv, hr2 u hul, hr2 v hvl, behB, decide_eq_false (by omega), Bool.false_or, hu, Int.toNat_natCast, Int.toNat_natCast, ← decide_not]
      exact decide_eq_decide.2 (by omega)
    · rw [behB, decide_eq_true (by omega)]; rfl
    rintro b rfl
    refine condB (fun hb => hbad (by simpa using hb)) (fun hb => ⟨by unfold rng; omega, hn _ ⟨by omega, fun j hj => ?_⟩⟩)
    rcases Nat.lt_or_ge j k with h5 | h5
    · exact hI j h5
    · obtain rfl : j = k := by omega
      rw [hq]; simpa using hb
  · rintro _ next ⟨rfl, hI⟩
    refine condT (fun hc => absurd hc (by simp)) (fun _ => ?_)
    rw [if_neg] at h
    · exact h
    · have h0 := hI 0 (by omega)
      have h1' := hI 1 (by omega)
      rintro (hc | hc)
      · rw [show at' [lo, hi'] ((0 : Nat) : Int) = lo from rfl, hc] at h0; cases h0
      · rw [show at' [lo, hi'] ((1 : Nat) : Int) = hi' from rfl, hc] at h1'; cases h1'
end
end Go.Gg
namespace Go.Gg
/-- References of nodes, each once. -/
def Bk (N : List GDNode) (b : List Int) : Prop := b.Nodup ∧ ∀ q ∈ b, 2 ≤ q ∧ q < 2 + N.length
theorem Bk.nil {N : List GDNode} : Bk N [] := ⟨List.nodup_nil, fun q h => by simp at h⟩
theorem Bk.len {N : List GDNode} {b : List Int} (h : Bk N b) : b.length ≤ N.length := by
  have h1 : (b.map fun q => (q - 2).toNat).Nodup := by
    refine List.pairwise_map.2 (List.Pairwise.imp_of_mem (fun {x y} hx hy hne => ?_) h.1)
    have := h.2 x hx
    have := h.2 y hy
    intro he
    exact hne (by omega)
  have := nodup_le N.length _ h1 (fun x hx => by
    obtain ⟨q, hq, rfl⟩ := List.mem_map.1 hx
    have := h.2 q hq
    omega)
  simpa using this
section
variable {N : List GDNode}
theorem Bk.numR (hK : Kids N) : ∀ (r : Nat) (b : List Int), r < 2 + N.length → Bk N b → Bk N (numR N r b) := by
  intro r
  induction r using Nat.strongRecOn with
  | _ r ih =>
    intro b hr hb
    by_cases hc : r < 2 ∨ (r : Int) ∈ b
    · rw [numR_old hc]; exact hb
    · obtain ⟨i, rfl⟩ : ∃ i, r = 2 + i := ⟨r - 2, by omega⟩
      have hx : N[i]? = some (N[i]'(by omega)) := List.getElem?_eq_getElem (by omega)
      have hk := hK i _ hx
      rw [numR_node hK hx (fun hm => hc (.inr hm))]
      have b1 := ih _ (show (N[i]'(by omega)).Lo.toNat < 2 + i by omega) b (by omega) hb
      have b2 := ih _ (show (N[i]'(by omega)).Hi.toNat < 2 + i by omega) _ (by omega) b1
      obtain ⟨c1, e1, k1⟩ := numR_ext hK (N[i]'(by omega)).Lo.toNat b
      obtain ⟨c2, e2, k2⟩ := numR_ext hK (N[i]'(by omega)).Hi.toNat (Gg.numR N (N[i]'(by omega)).Lo.toNat b)
      refine ⟨List.nodup_append.2 ⟨b2.1, by simp, fun x hx y hy => ?_⟩, fun q hq => ?_⟩
      · simp only [List.mem_singleton] at hy
        subst hy
        rintro rfl
        rw [e2, e1, List.mem_append, List.mem_append] at hx
        rcases hx with (hx | hx) | hx
        · exact hc (.inr hx)
        · have := k1 _ hx; omega
        · have := k2 _ hx; omega
      · rcases List.mem_append.1 hq with hq | hq
        · exact b2.2 q hq
        · simp only [List.mem_singleton] at hq; subst hq; omega
theorem mem_numR (hK : Kids N) {r : Nat} {b : List Int} {q : Int} (h : (r : Int) < q) : q ∈ numR N r b ↔ q ∈ b := by
  obtain ⟨c, e, k⟩ := numR_ext hK r b
  rw [e, List.mem_append]
  exact ⟨fun hh => hh.resolve_right fun hc => by have := k q hc; omega, .inl⟩
theorem at_get {i : Nat} (hi : i < N.length) : N[i]? = some (at' N (i : Int)) := by
  simp [at', List.getD_eq_getElem?_getD, List.getElem?_eq_getElem hi]
/-- What the program's walk knows: the number of nodes behind it, whether they were numbered as they came, which of them it saw. -/
structure NB (N : List GDNode) (b : List Int) (ok : Bool) (next : Int) (seen : List Bool) : Prop where
  nx : next = b.length
  ok : ok = true ↔ b = upto b.length
  len : seen.length = N.length
theorem numbered_1_s {d : GDiagram} (hK : Kids d.Nodes) (hl : d.Nodes.length ≤ 4096) : ∀ (r fu : Nat) (b : List Int) (ok : Bool) (next : Int) (seen : List Bool), r < fu → r < 2 + d.Nodes.length → Bk d.Nodes b → NB d.Nodes b ok next seen →
    (∀ q : Nat, q < d.Nodes.length → 2 + q ≤ r → (at' seen (q : Int) = true ↔ ((2 + q : Nat) : Int) ∈ b)) →
    ∃ (ok' : Bool) (next' : Int) (seen' : List Bool), (NB d.Nodes (numR d.Nodes r b) ok' next' seen' ∧ (∀ q : Nat, q < d.Nodes.length → 2 + q ≤ r → (at' seen' (q : Int) = true ↔ ((2 + q : Nat) : Int) ∈ numR d.Nodes r b)) ∧ ∀ q : Nat, q < d.Nodes.length → r < 2 + q → at' seen' (q : Int) = at' seen (q : Int)) ∧
      ∀ Q : Bool → Int → List Bool → Prop, Q ok' next' seen' → diagram_numbered_1__e_W fu (r : Int) d ok next seen Q := by
  intro r
  induction r using Nat.strongRecOn with
  | _ r ih =>
    intro fu b ok next seen hfu hr hb hN hS
    obtain ⟨g, rfl⟩ : ∃ g, fu = g + 1 := ⟨fu - 1, by omega⟩
    by_cases h1 : r < 2
    · refine ⟨ok, next, seen, ⟨by rw [numR_old (.inl h1)]; exact hN, by rw [numR_old (.inl h1)]; exact hS, fun _ _ _ => rfl⟩, fun Q hQ => ?_⟩
      rw [diagram_numbered_1__e_W]
      exact condT (fun _ => hQ) (fun hc => absurd (show (r : Int) < 2 by omega) hc)
    obtain ⟨i, rfl⟩ : ∃ i, r = 2 + i := ⟨r - 2, by omega⟩
    have hi : i < d.Nodes.length := by omega
    have hsl := hN.len
    have hSi := hS i hi (by omega)
    by_cases hm : ((2 + i : Nat) : Int) ∈ b
    · refine ⟨ok, next, seen, ⟨by rw [numR_old (.inr hm)]; exact hN, by rw [numR_old (.inr hm)]; exact hS, fun _ _ _ => rfl⟩, fun Q hQ => ?_⟩
      rw [diagram_numbered_1__e_W, show ((2 + i : Nat) : Int) - 2 = (i : Int) by omega]
      exact condT (fun hc => absurd hc (by omega)) (fun _ => ⟨by unfold rng; omega, ⟨by omega, by omega⟩, condB (fun _ => hQ) (fun hc => by rw [hSi.2 hm] at hc; cases hc)⟩)
    have hx := at_get (N := d.Nodes) hi
    have hk := hK i _ hx
    generalize hlo : (at' d.Nodes (i : Int)).Lo = lo at hk
    generalize hhi : (at' d.Nodes (i : Int)).Hi = hi' at hk
    have hnode := numR_node hK hx hm
    rw [hlo, hhi] at hnode
    obtain ⟨l, rfl⟩ : ∃ l : Nat, lo = l := ⟨lo.toNat, by omega⟩
    obtain ⟨h', rfl⟩ : ∃ h' : Nat, hi' = h' := ⟨hi'.toNat, by omega⟩
    simp only [Int.toNat_natCast] at hnode
    have b1 := Bk.numR hK l b (by omega) hb
    have b2 := Bk.numR hK h' _ (by omega) b1
    have hset : ∀ q : Nat, at' (set' seen (i : Int) true) (q : Int) = if q = i then true else at' seen (q : Int) := fun q => at_set (by omega)
    obtain ⟨ok1, nx1, s1, ⟨n1, p1, t1⟩, w1⟩ := ih l (by omega) g b ok next (set' seen (i : Int) true) (by omega) (by omega) hb ⟨hN.nx, hN.ok, by rw [set_len]; exact hsl⟩ (fun q hq hql => by
      rw [hset, if_neg (by omega)]; exact hS q hq (by omega))
    have hs1 : ∀ q : Nat, q < d.Nodes.length → 2 + q < 2 + i → (at' s1 (q : Int) = true ↔ ((2 + q : Nat) : Int) ∈ numR d.Nodes l b) := fun q hq hqi => by
      rcases Nat.lt_or_ge l (2 + q) with h5 | h5
      · rw [t1 q hq h5, hset, if_neg (by omega), mem_numR hK (by omega)]
        exact hS q hq (by omega)
      · exact p1 q hq h5
    obtain ⟨ok2, nx2, s2, ⟨n2, p2, t2⟩, w2⟩ := ih h' (by omega) g (numR d.Nodes l b) ok1 nx1 s1 (by omega) (by omega) b1 n1 (fun q hq hql => hs1 q hq (by omega))
    have hs2i : at' s2 (i : Int) = true := by rw [t2 i hi (by omega), t1 i hi (by omega), hset, if_pos rfl]
    have b2l := b2.len
    have hbl := hb.len
    have hlen : (numR d.Nodes h' (numR d.Nodes l b)).length = nx2.toNat := by have := n2.nx; omega
    refine ⟨ok2 && decide ((i : Int) = nx2), nx2 + 1, s2, ⟨⟨?_, ?_, n2.len⟩, fun q hq hqr => ?_, fun q hq hqr => ?_⟩, fun Q hQ => ?_⟩
    · rw [hnode, List.length_append, n2.nx]; simp
    · rw [hnode, Bool.and_eq_true, decide_eq_true_eq, n2.ok, List.length_append, List.length_singleton, upto_succ]
      have hnx := n2.nx
      constructor
      · rintro ⟨a1, a2⟩
        rw [← a1]
        congr 2
        omega
      · intro hh
        obtain ⟨a1, a2⟩ := List.append_inj' hh rfl
        exact ⟨a1, by simp at a2; omega⟩
    · rw [hnode, List.mem_append, List.mem_singleton]
      by_cases hqi : q = i
      · subst hqi; exact ⟨fun _ => .inr rfl, fun _ => hs2i⟩
      · have hne : ((2 + q : Nat) : Int) ≠ ((2 + i : Nat) : Int) := by omega
        simp only [hne, or_false]
        rcases Nat.lt_or_ge h' (2 + q) with h5 | h5
        · rw [t2 q hq h5, mem_numR hK (by omega)]
          exact hs1 q hq (by omega)
        · exact p2 q hq h5
    · rw [t2 q hq (by omega), t1 q hq (by omega), hset, if_neg (by omega)]
    · rw [diagram_numbered_1__e_W, show ((2 + i : Nat) : Int) - 2 = (i : Int) by omega, hlo, hhi]
      refine condT (fun hc => absurd hc (by omega)) (fun _ => ⟨by unfold rng; omega, ⟨by omega, by omega⟩, condB (fun hc => absurd (hSi.1 hc) hm) (fun _ => ⟨by unfold rng; omega, ⟨by omega, by omega⟩, by unfold rng; omega, ⟨by omega, by omega⟩,
        ok1, nx1, s1, w1 _ ⟨rfl, rfl, rfl⟩, by rw [n1.len, set_len]; exact hsl.symm, by unfold rng; omega, ⟨by omega, by omega⟩, ok2, nx2, s2, w2 _ ⟨rfl, rfl, rfl⟩, by rw [n2.len, n1.len], fun x => x = (ok2 && decide ((i : Int) = nx2)), condB (fun h5 => ⟨by unfold rng; omega, ?_⟩) (fun h5 => ?_), ?_⟩)⟩)
      · rw [h5, Bool.true_and]
        by_cases h6 : (i : Int) = nx2
        · rw [decide_eq_true h6]; simp [h6]
        · rw [decide_eq_false h6]; simp [h6]
      · rw [h5, Bool.false_and]
      · rintro x rfl
        have hnx := n2.nx
        exact ⟨by unfold rng; omega, hQ⟩
theorem diagram_numbered_s {d : GDiagram} {Q : Bool → Prop} (hK : Kids d.Nodes) (hl : d.Nodes.length ≤ 4096) (hr : 0 ≤ d.Root ∧ d.Root < 2 + d.Nodes.length) (h : Q (decide (numR d.Nodes d.Root.toNat [] = upto d.Nodes.length))) : diagram_numbered_W d Q := by
  have hrep : ∀ q : Nat, q < d.Nodes.length → at' (rep' (d.Nodes.length : Int) false) (q : Int) = false := fun q hq => by simp [at', rep', List.getD_eq_getElem?_getD, hq]
  obtain ⟨ok, nx, seen, ⟨n1, _, _⟩, w⟩ := numbered_1_s hK hl d.Root.toNat (d.Root.toNat + 1) [] true 0 (rep' (d.Nodes.length : Int) false) (by omega) (by omega) Bk.nil ⟨rfl, by simp [upto], by simp [rep']⟩ (fun q hq _ => by rw [hrep q hq]; simp)
  have hb := (Bk.numR hK d.Root.toNat [] (by omega) Bk.nil).len
  rw [show ((d.Root.toNat : Nat) : Int) = d.Root by omega] at w
  refine ⟨⟨by omega, by omega, by omega⟩, d.Root.toNat + 1, w _ ⟨by rw [n1.len]; simp [rep'], condB (fun h1 => ?_) (fun h1 => ?_)⟩⟩
  · have h2 := n1.ok.1 h1
    have hnx := n1.nx
    rw [show (nx == (d.Nodes.length : Int)) = decide (numR d.Nodes d.Root.toNat [] = upto d.Nodes.length) from ?_]
    · exact h
    · rw [Bool.eq_iff_iff, beq_iff_eq, decide_eq_true_eq]
      constructor
      · intro h3
        rw [h2]
        congr 1
        omega
      · intro h3
        rw [hnx, h3, upto_len]
  · rw [decide_eq_false] at h
    · exact h
    · intro h3
      have : ok = true := n1.ok.2 (by rw [h3, upto_len])
      rw [this] at h1; cases h1
end
end Go.Gg
namespace Go.Gg
theorem kidsOf {o : List Int} {N : List GDNode} (h : ∀ i, i < N.length → ndE o N i = 0) : Kids N := fun i x hx => by
  have hi := (List.getElem?_eq_some_iff.1 hx).1
  rw [at_get hi] at hx
  cases hx
  have := ndE_facts (h i hi)
  exact ⟨this.2.1, this.2.2.1⟩
theorem errO_some {e : Int} (h : e ≠ 0) : Option.isSome (errO e) = true := by simp [errO, h]
theorem errO_ne' {e : Int} (h : e ≠ 0) : errO e = some e := by simp [errO, h]
theorem diagram_Check_s {d : GDiagram} {Q : Option Int → Prop} (h : Q (errO (dgE d))) : diagram_Check_W d Q := by
  unfold dgE at h
  refine order_Positions_s (fun h1 => ?_) (fun hO r hr hr2 => ?_)
  · rw [if_pos h1] at h
    exact condB (fun _ => h) (fun hc => by rw [errO_some h1] at hc; cases hc)
  refine condB (fun hc => by cases hc) (fun _ => ?_)
  rw [if_neg (by rw [ordE_of hO]; simp)] at h
  refine condT (fun h2 => by rw [if_pos (by omega)] at h; exact h) (fun h2 => ?_)
  rw [if_neg (by omega)] at h
  have hl : d.Nodes.length ≤ 4096 := by omega
  refine loopInv (n := d.Nodes.length) (fun i y => (y.1 = (i : Int) ∧ ∀ j, j < i → ndE d.Order d.Nodes j = 0) ∧ ∀ v lo hi, mget y.2 [v, lo, hi] = some true ↔ ∃ k < i, at' d.Nodes (k : Int) = ⟨v, lo, hi⟩) (fun y => y.1) 0
    (fun i y hy => by rw [hy.1.1]; omega) ⟨⟨rfl, fun j hj => absurd hj (by omega)⟩, fun v lo hi => ⟨fun hc => (by simp [mget_new] at hc), fun ⟨k, hk, _⟩ => absurd hk (by omega)⟩⟩ ?_ ?_
  · rintro i ⟨x, m⟩ next hi ⟨⟨hx, hz⟩, hm⟩ hn
    dsimp only at hx hm
    subst hx
    refine condT (fun _ => ⟨⟨by omega, by omega⟩, diagram_checkNode_s hO hl hi hz hr hr2 ?_⟩) (fun hc => absurd (show (i : Int) < d.Nodes.length by omega) hc)
    have hmi := hm (at' d.Nodes (i : Int)).Var (at' d.Nodes (i : Int)).Lo (at' d.Nodes (i : Int)).Hi
    by_cases h0 : ndE0 d.Order d.Nodes i = 0
    · rw [h0]
      refine condB (fun hc => by cases hc) (fun _ => condB (fun h3 => ?_) (fun h3 => ⟨by unfold rng; omega, hn _ ⟨⟨by dsimp only; omega, fun j hj => ?_⟩, fun v lo hi' => ?_⟩⟩))
      · have h4 : mget m [(at' d.Nodes (i : Int)).Var, (at' d.Nodes (i : Int)).Lo, (at' d.Nodes (i : Int)).Hi] = some true := by
          cases hg : mget m [(at' d.Nodes (i : Int)).Var, (at' d.Nodes (i : Int)).Lo, (at' d.Nodes (i : Int)).Hi] with
          | none => rw [hg] at h3; cases h3
          | some b => rw [hg] at h3; rw [show b = true from h3]
        have h6 : ndE d.Order d.Nodes i = 6 := by rw [ndE, if_neg (by omega), if_pos (hmi.1 h4)]
        have := firstE_hit hz (by rw [h6]; decide) d.Nodes.length hi
        rw [this, h6, if_pos (by decide)] at h
        exact h
      · rcases Nat.lt_or_ge j i with h5 | h5
        · exact hz j h5
        · obtain rfl : j = i := by omega
          rw [ndE, if_neg (by omega), if_neg]
          intro hc
          have := hmi.2 hc
          rw [this] at h3; cases h3
      · dsimp only
        rw [mget_put]
        by_cases he : [v, lo, hi'] = [(at' d.Nodes (i : Int)).Var, (at' d.Nodes (i : Int)).Lo, (at' d.Nodes (i : Int)).Hi]
        · rw [if_pos he]
          refine ⟨fun _ => ⟨i, by omega, ?_⟩, fun _ => rfl⟩
          exact (node_ext (x := ⟨v, lo, hi'⟩)).1 he |>.symm
        · rw [if_neg he, hm]
          constructor
          · rintro ⟨k, hk, hk'⟩; exact ⟨k, by omega, hk'⟩
          · rintro ⟨k, hk, hk'⟩
            rcases Nat.lt_or_ge k i with h5 | h5
            · exact ⟨k, h5, hk'⟩
            · obtain rfl : k = i := by omega
              rw [hk'] at he
              exact absurd rfl he
    · have h6 : ndE d.Order d.Nodes i = ndE0 d.Order d.Nodes i := by rw [ndE, if_pos h0]
      have := firstE_hit hz (by rw [h6]; exact h0) d.Nodes.length hi
      rw [this, h6, if_pos h0] at h
      exact condB (fun _ => h) (fun hc => by rw [errO_some h0] at hc; cases hc)
  · rintro ⟨x, m⟩ next ⟨⟨hx, hz⟩, _⟩
    dsimp only at hx
    subst hx
    refine condT (fun hc => absurd hc (by omega)) (fun _ => ?_)
    rw [if_neg (by rw [firstE_zero.2 hz]; simp)] at h
    refine ⟨fun b => b = decide (d.Root < 0 ∨ 1 + (d.Nodes.length : Int) < d.Root), condT (fun h3 => (decide_eq_true (.inl h3)).symm) (fun h3 => ⟨by unfold rng; omega, decide_eq_decide.2 (by omega)⟩), ?_⟩
    rintro b rfl
    refine condT (fun h3 => by rw [if_pos h3] at h; exact h) (fun h3 => ?_)
    rw [if_neg h3] at h
    refine diagram_numbered_s (kidsOf hz) hl (by omega) ?_
    by_cases h4 : numR d.Nodes d.Root.toNat [] = upto d.Nodes.length
    · rw [if_pos h4] at h
      rw [decide_eq_true h4]
      exact condB (fun hc => by cases hc) (fun _ => h)
    · rw [if_neg h4] at h
      rw [decide_eq_false h4]
      exact condB (fun _ => h) (fun hc => by cases hc)
/-- An accepted diagram. -/
structure VD (d : GDiagram) : Prop where
  ord : Or14 d.Order
  wt : WT d.Order.length (levO d.Order) d.Nodes
  root : Vd d.Nodes d.Root
  le : d.Nodes.length ≤ 4096
  num : numR d.Nodes d.Root.toNat [] = upto d.Nodes.length
theorem behB_iff {o : List Int} {N : List GDNode} {r v : Int} (hO : Or14 o) (hv : 0 ≤ v ∧ v < o.length) (hr : 0 ≤ r ∧ r < 2 + N.length) : behB o N r v = true ↔ levO o v.toNat < lvl o.length (levO o) N r.toNat := by
  unfold behB
  by_cases h : r < 2
  · rw [decide_eq_true h, Bool.true_or, lvl_lt (by omega)]
    exact ⟨fun _ => (hO.at_lev (by omega)).1, fun _ => rfl⟩
  · have hx := at_get (N := N) (i := (r - 2).toNat) (by omega)
    rw [decide_eq_false h, Bool.false_or, decide_eq_true_eq, show r.toNat = 2 + (r - 2).toNat by omega, lvl_at hx, show (((r - 2).toNat : Nat) : Int) = r - 2 by omega]
theorem dgE_zero {d : GDiagram} : dgE d = 0 ↔ VD d := by
  constructor
  · intro h
    unfold dgE at h
    split at h
    · rename_i h1; exact absurd h h1
    rename_i h1
    split at h
    · cases h
    rename_i h2
    split at h
    · rename_i h3; exact absurd h h3
    rename_i h3
    split at h
    · cases h
    rename_i h4
    split at h
    · rename_i h5
      have hO := ordE_zero (show ordE d.Order d.Order.length = 0 by omega)
      have hz := firstE_zero.1 (show firstE (ndE d.Order d.Nodes) d.Nodes.length = 0 by omega)
      refine ⟨hO, ⟨fun i x hx => ?_, fun i j x hi hj => ?_⟩, ⟨by omega, by omega⟩, by omega, h5⟩
      · have hi := (List.getElem?_eq_some_iff.1 hx).1
        rw [at_get hi] at hx
        cases hx
        obtain ⟨a, b, c, e, f, g, _⟩ := ndE_facts (hz i hi)
        exact ⟨a, b, c, e, (behB_iff hO a ⟨by omega, by omega⟩).1 f, (behB_iff hO a ⟨by omega, by omega⟩).1 g⟩
      · have hil := (List.getElem?_eq_some_iff.1 hi).1
        have hjl := (List.getElem?_eq_some_iff.1 hj).1
        rw [at_get hil] at hi
        rw [at_get hjl] at hj
        have he : at' d.Nodes (i : Int) = at' d.Nodes (j : Int) := (Option.some.inj hi).trans (Option.some.inj hj).symm
        rcases Nat.lt_trichotomy i j with h6 | h6 | h6
        · exact absurd he ((ndE_facts (hz j hjl)).2.2.2.2.2.2 i h6)
        · exact h6
        · exact absurd he.symm ((ndE_facts (hz i hil)).2.2.2.2.2.2 j h6)
    · cases h
  · intro h
    have hz : ∀ i, i < d.Nodes.length → ndE d.Order d.Nodes i = 0 := fun i hi => by
      obtain ⟨a, b, c, e, f, g⟩ := h.wt.nd i _ (at_get hi)
      have q1 := (behB_iff h.ord a (r := (at' d.Nodes (i : Int)).Lo) ⟨by omega, by omega⟩).2 f
      have q2 := (behB_iff h.ord a (r := (at' d.Nodes (i : Int)).Hi) ⟨by omega, by omega⟩).2 g
      have h0 : ndE0 d.Order d.Nodes i = 0 := by
        rw [ndE0, if_neg (by omega), if_neg e, if_neg]
        rintro (hc | hc)
        · rw [q1] at hc; cases hc
        · rw [q2] at hc; cases hc
      rw [ndE, if_neg (by omega), if_neg]
      rintro ⟨k, hk, he⟩
      have := h.wt.dis k i _ (by rw [at_get (by omega), he]) (at_get hi)
      omega
    have := h.le
    have := h.root.1
    have := h.root.2
    rw [dgE, if_neg (by rw [ordE_of h.ord]; simp), if_neg (by omega), if_neg (by rw [firstE_zero.2 hz]; simp), if_neg (by omega), if_pos h.num]
/-- The only diagram of a function for an order. -/
def canD (o : List Int) (f : Asg → Bool) : GDiagram := ⟨o, (addF (natO o) f []).1, (addF (natO o) f []).2⟩
theorem VD.can {d : GDiagram} (h : VD d) : d = canD d.Order (dn d.Nodes d.Root) := by
  have h1 := numb_addF h.ord.ord h.wt d.Root.toNat 0 d.Nodes.length h.root.2 (by omega) (Nat.le_refl _) (by rw [show upto 0 = [] from rfl]; exact h.num)
  have hr := h.root.1
  rw [List.take_zero, List.take_length] at h1
  cases d with
  | mk o N r =>
    unfold canD
    simp only at h1 hr ⊢
    rw [show dn N r = fun σ => den N σ r.toNat from rfl, h1]
    simp only [GDiagram.mk.injEq, true_and]
    omega
end Go.Gg
/- Bits of small numbers. Conditions: the numbers are below 2^62. -/
namespace Go.Gg
theorem big62 : (2 : Nat) ^ 62 = 4611686018427387904 := rfl
theorem ofInt_toNat {a : Nat} (h : a < 2 ^ 62) : (BitVec.ofInt 64 (a : Int)).toNat = a := by
  rw [BitVec.toNat_ofInt]
  rw [big62] at h
  omega
theorem wrap62 {a : Nat} (h : a < 2 ^ 62) : IntKind.i64.wrap (a : Int) = (a : Int) := by
  rw [big62] at h
  exact rng_wrap (by unfold rng; omega)
theorem bits_or {a b : Nat} (ha : a < 2 ^ 62) (hb : b < 2 ^ 62) : bits .or .i64 (a : Int) (b : Int) = ((a ||| b : Nat) : Int) := by
  show IntKind.i64.wrap (((BitVec.ofInt 64 (a : Int)) ||| (BitVec.ofInt 64 (b : Int))).toNat : Int) = _
  rw [BitVec.toNat_or, ofInt_toNat ha, ofInt_toNat hb]
  exact wrap62 (Nat.or_lt_two_pow ha hb)
theorem inS_bit {s i : Nat} : inS s i = s.testBit i := by rw [inS, Nat.testBit_eq_decide_div_mod_eq]
/-- A set of numbers below n. -/
def bset (p : Nat → Bool) : Nat → Nat
  | 0 => 0
  | n + 1 => if p n = true then bset p n + 2 ^ n else bset p n
theorem bset_lt {p : Nat → Bool} : ∀ n, bset p n < 2 ^ n
  | 0 => by simp [bset]
  | n + 1 => by
    have := bset_lt (p := p) n
    rw [bset, Nat.pow_succ]
    split <;> omega
theorem bset_or {p : Nat → Bool} (n : Nat) : bset p n ||| 2 ^ n = bset p n + 2 ^ n := by
  have := Nat.two_pow_add_eq_or_of_lt (bset_lt (p := p) n) 1
  rw [Nat.mul_one] at this
  rw [Nat.or_comm, ← this, Nat.add_comm]
theorem bset_bit {p : Nat → Bool} : ∀ n i, (bset p n).testBit i = (decide (i < n) && p i)
  | 0, i => by simp [bset]
  | n + 1, i => by
    rw [bset]
    rcases Nat.lt_trichotomy i n with h | h | h
    · have h1 : (decide (i < n + 1) && p i) = (decide (i < n) && p i) := by rw [decide_eq_true h, decide_eq_true (by omega)]
      rw [h1, ← bset_bit n i]
      split
      · rw [← bset_or, Nat.testBit_or, Nat.testBit_two_pow_of_ne (by omega), Bool.or_false]
      · rfl
    · subst h
      rw [decide_eq_true (Nat.lt_succ_self i), Bool.true_and]
      have h0 : (bset p i).testBit i = false := Nat.testBit_lt_two_pow (bset_lt i)
      cases hp : p i with
      | true => rw [if_pos rfl, ← bset_or, Nat.testBit_or, h0, Nat.testBit_two_pow_self, Bool.false_or]
      | false => rw [if_neg (by simp)]; exact h0
    · rw [decide_eq_false (by omega), Bool.false_and]
      refine Nat.testBit_lt_two_pow (Nat.lt_of_lt_of_le (m := 2 ^ (n + 1)) ?_ (Nat.pow_le_pow_right (by omega) (by omega)))
      have := bset_lt (p := p) n
      rw [Nat.pow_succ]
      split <;> omega
theorem bset_in {p : Nat → Bool} {n i : Nat} (h : i < n) : inS (bset p n) i = p i := by rw [inS_bit, bset_bit, decide_eq_true h, Bool.true_and]
theorem pow62 {n : Nat} (h : n < 62) : 2 ^ n < 2 ^ 62 := Nat.pow_lt_pow_right (by omega) h
theorem shl_ok {n : Nat} (h : n < 62) : ((0 : Int) ≤ (n : Int) ∧ (n : Int) ≤ 64) ∧ rng (1 * 2 ^ (Int.toNat (n : Int))) := by
  refine ⟨by omega, ?_⟩
  have e : (1 * 2 ^ (Int.toNat (n : Int)) : Int) = ((2 ^ n : Nat) : Int) := by simp
  have h1 := pow62 h
  rw [big62] at h1
  rw [e]
  generalize 2 ^ n = z at h1 ⊢
  unfold rng; omega
end Go.Gg
/- Diagrams: values, tables, and the reference's diagram of a table. Conditions: none. -/
namespace Go.Gg
/-- The assignment of a state. -/
def stA (s : Nat) : Asg := fun v => inS s v
theorem stA_bset {σ : Asg} {n v : Nat} (h : v < n) : stA (bset σ n) v = σ v := bset_in h
theorem bset_congr {p q : Nat → Bool} : ∀ {n : Nat}, (∀ v, v < n → p v = q v) → bset p n = bset q n
  | 0, _ => rfl
  | n + 1, h => by rw [bset, bset, bset_congr (n := n) (fun v hv => h v (by omega)), h n (by omega)]
theorem bset_stA {s n : Nat} (h : s < 2 ^ n) : bset (stA s) n = s := by
  refine Nat.eq_of_testBit_eq fun i => ?_
  rw [bset_bit]
  by_cases hi : i < n
  · rw [decide_eq_true hi, Bool.true_and]; exact inS_bit
  · rw [decide_eq_false hi, Bool.false_and]
    exact (Nat.testBit_lt_two_pow (Nat.lt_of_lt_of_le h (Nat.pow_le_pow_right (by omega) (by omega)))).symm
theorem dpow24 {n : Nat} (h : n ≤ 24) : 2 ^ n ≤ 16777216 := by
  have := Nat.pow_le_pow_right (n := 2) (by omega) h
  exact this
section
variable {o : List Int} {N : List GDNode}
/-- A function's table. -/
def tabF (n : Nat) (f : Asg → Bool) : List Bool := (List.range (2 ^ n)).map fun s => f (stA s)
theorem tabF_len {n : Nat} {f : Asg → Bool} : (tabF n f).length = 2 ^ n := by simp [tabF]
theorem tabF_at {n s : Nat} {f : Asg → Bool} (h : s < 2 ^ n) : at' (tabF n f) (s : Int) = f (stA s) := by simp [tabF, at', List.getD_eq_getElem?_getD, h]
theorem shl_pow {n : Nat} : (1 * 2 ^ (Int.toNat (n : Int)) : Int) = ((2 ^ n : Nat) : Int) := by simp
theorem tabF_take {k : Nat} {f : Asg → Bool} : (List.range (k + 1)).map (fun s => f (stA s)) = (List.range k).map (fun s => f (stA s)) ++ [f (stA k)] := by simp [List.range_succ]
/-! ### The reference's diagram of a table -/
/-- Events above a level as given, those from it on open. -/
def apA (o : List Int) (τ : Asg) (l : Nat) (σ : Asg) : Asg := fun v => if levO o v < l then τ v else σ v
theorem addF_len : ∀ (vs : List Nat) (f : Asg → Bool) (N : List GDNode), (addF vs f N).1.length + 1 ≤ N.length + 2 ^ vs.length
  | [], f, N => by simp [addF]
  | v :: vs, f, N => by
    have h1 := addF_len vs (fun σ => f (setA σ v false)) N
    have h2 := addF_len vs (fun σ => f (setA σ v true)) (addF vs (fun σ => f (setA σ v false)) N).1
    rw [addF, List.length_cons, Nat.pow_succ]
    unfold mkD
    split
    · simp only; omega
    · split
      · simp only; omega
      · simp only [List.length_append, List.length_singleton]; omega
theorem idxOf_first {x : GDNode} {i : Nat} (hx : N[i]? = some x) (h : ∀ j, j < i → N[j]? ≠ some x) : N.idxOf x = i := by
  have hm := List.mem_of_getElem? hx
  have hl := List.idxOf_lt_length_of_mem hm
  have hg : N[N.idxOf x]? = some x := by rw [List.getElem?_eq_getElem hl, List.getElem_idxOf]
  rcases Nat.lt_trichotomy (N.idxOf x) i with h1 | h1 | h1
  · exact absurd hg (h _ h1)
  · exact h1
  · exfalso
    obtain ⟨hi, e⟩ := List.getElem?_eq_some_iff.1 hx
    have := List.not_of_lt_findIdx (p := (· == x)) (xs := N) (i := i) h1
    simp [e] at this
theorem ref15_add_s (hO : Or14 o) {F : Nat → Bool} {table : List Bool} {root : Int} (hT : table.length = 2 ^ o.length) (hF : ∀ s : Nat, s < 2 ^ o.length → at' table (s : Int) = F s) :
    ∀ (k l fu : Nat) (τ : Asg) (N : List GDNode) (Q : List GDNode → List Int → Int → Int → Prop), l + k = o.length → k < fu → (∀ v, v < o.length → l ≤ levO o v → τ v = false) → N.length + 2 ^ k ≤ 33554432 →
      Q (addF ((natO o).drop l) (fun σ => F (bset (apA o τ l σ) o.length)) N).1 o root ((addF ((natO o).drop l) (fun σ => F (bset (apA o τ l σ) o.length)) N).2 : Int) →
      ref15_add__e_W fu o root table (l : Int) (bset τ o.length : Int) N Q := by
  intro k
  have hn := hO.le
  have hp := dpow24 hn
  induction k with
  | zero =>
    intro l fu τ N Q hk hfu hτ hb hQ
    obtain ⟨g, rfl⟩ : ∃ g, fu = g + 1 := ⟨fu - 1, by omega⟩
    obtain rfl : l = o.length := by omega
    have hdrop : (natO o).drop o.length = [] := List.drop_eq_nil_of_le (by rw [natO_len]; omega)
    have hap : bset (apA o τ o.length (fun _ => false)) o.length = bset τ o.length := bset_congr fun v hv => by unfold apA; rw [if_pos (hO.at_lev hv).1]
    rw [hdrop, addF, hap] at hQ
    have hlt := bset_lt (p := τ) o.length
    rw [ref15_add__e_W]
    refine condE (fun _ => ⟨⟨by omega, by omega⟩, ?_⟩) (fun hc => absurd rfl hc)
    rw [hF _ hlt]
    refine condB (fun h1 => ?_) (fun h1 => ?_)
    · rw [if_pos h1] at hQ; exact hQ
    · rw [if_neg (by rw [h1]; simp)] at hQ; exact hQ
  | succ k ih =>
    intro l fu τ N Q hk hfu hτ hb hQ
    obtain ⟨g, rfl⟩ : ∃ g, fu = g + 1 := ⟨fu - 1, by omega⟩
    have hl : l < o.length := by omega
    have hr := hO.rg l hl
    obtain ⟨v, hv⟩ : ∃ v : Nat, at' o (l : Int) = v := ⟨(at' o (l : Int)).toNat, by omega⟩
    have hvl : v < o.length := by omega
    have hlv : levO o v = l := by have := hO.lev_at hl; rwa [hv, Int.toNat_natCast] at this
    have hdrop : (natO o).drop l = v :: (natO o).drop (l + 1) := by have := hO.ord.drop hvl; rwa [hlv] at this
    have hdl : ((natO o).drop (l + 1)).length = k := by rw [List.length_drop, natO_len]; omega
    have hcof : ∀ b, (fun σ => F (bset (apA o τ l (setA σ v b)) o.length)) = fun σ => F (bset (apA o (setA τ v b) (l + 1) σ) o.length) := fun b => by
      funext σ
      congr 1
      refine bset_congr fun u hu => ?_
      unfold apA
      by_cases huv : u = v
      · subst huv
        rw [if_neg (by omega), setA_same, if_pos (by omega), setA_same]
      · have hne : levO o u ≠ l := fun hc => huv (hO.ord.lv.inj u v hu hvl (by rw [hc, hlv]))
        rw [setA_ne huv, setA_ne huv]
        by_cases h1 : levO o u < l
        · rw [if_pos h1, if_pos (by omega)]
        · rw [if_neg h1, if_neg (by omega)]
    have hτf : ∀ u, u < o.length → l + 1 ≤ levO o u → u ≠ v := fun u hu h1 hc => by subst hc; omega
    have e0 : bset (setA τ v false) o.length = bset τ o.length := bset_congr fun u hu => by
      by_cases huv : u = v
      · subst huv; rw [setA_same, hτ u hu (by omega)]
      · rw [setA_ne huv]
    have e1 : bits .or .i64 (bset τ o.length : Int) (1 * 2 ^ (Int.toNat (v : Int))) = (bset (setA τ v true) o.length : Int) := by
      rw [shl_pow, bits_or (Nat.lt_trans (bset_lt _) (pow62 (by omega))) (pow62 (by omega))]
      congr 1
      refine Nat.eq_of_testBit_eq fun i => ?_
      rw [Nat.testBit_or, bset_bit, bset_bit]
      by_cases hiv : i = v
      · subst hiv; rw [Nat.testBit_two_pow_self, Bool.or_true, setA_same, decide_eq_true hvl]; rfl
      · rw [Nat.testBit_two_pow_of_ne (fun hc => hiv hc.symm), Bool.or_false, setA_ne hiv]
    rw [hdrop, addF, hcof, hcof] at hQ
    have l1 := addF_len ((natO o).drop (l + 1)) (fun σ => F (bset (apA o (setA τ v false) (l + 1) σ) o.length)) N
    generalize hA : addF ((natO o).drop (l + 1)) (fun σ => F (bset (apA o (setA τ v false) (l + 1) σ) o.length)) N = A at hQ l1
    have l2 := addF_len ((natO o).drop (l + 1)) (fun σ => F (bset (apA o (setA τ v true) (l + 1) σ) o.length)) A.1
    generalize hB : addF ((natO o).drop (l + 1)) (fun σ => F (bset (apA o (setA τ v true) (l + 1) σ) o.length)) A.1 = B at hQ l2
    rw [hdl] at l1 l2
    rw [Nat.pow_succ] at hb
    rw [ref15_add__e_W]
    refine condE (fun hc => absurd hc (by omega)) (fun _ => ⟨by unfold rng; omega, ?_⟩)
    rw [← e0, show (l : Int) + 1 = ((l + 1 : Nat) : Int) by omega]
    refine ih (l + 1) g (setA τ v false) N _ (by omega) (by omega) (fun u hu h1 => by rw [setA_ne (hτf u hu h1)]; exact hτ u hu (by omega)) (by omega) ?_
    rw [hA, hv, e0, e1]
    refine ⟨by unfold rng; omega, ⟨by omega, by omega⟩, shl_ok (by omega), B.1, o, root, (B.2 : Int), ih (l + 1) g (setA τ v true) A.1 _ (by omega) (by omega) (fun u hu h1 => by rw [setA_ne (hτf u hu h1)]; exact hτ u hu (by omega)) (by omega) ?_, ?_⟩
    · rw [hB]; exact ⟨rfl, rfl, rfl, rfl⟩
    · unfold mkD at hQ
      refine condE (fun h1 => ?_) (fun h1 => ⟨⟨by omega, by omega⟩, ?_⟩)
      · rw [if_pos (by omega)] at hQ; exact hQ
      rw [hv]
      rw [if_neg (by omega)] at hQ
      have hrw : ∀ i : Nat, i < B.1.length → (at' B.1 (i : Int) = (⟨(v : Int), (A.2 : Int), (B.2 : Int)⟩ : GDNode) ↔ B.1[i]? = some ⟨(v : Int), (A.2 : Int), (B.2 : Int)⟩) := fun i hi => by
        rw [at_get hi]; simp
      refine scanW (n := B.1.length) (fun i => at' B.1 (i : Int) = (⟨(v : Int), (A.2 : Int), (B.2 : Int)⟩ : GDNode)) (by omega) (fun i next hi hI hn' => ⟨⟨by omega, by omega⟩, condT (fun h2 => ⟨by unfold rng; omega, ?_⟩) (fun h2 => hn' (fun hc => h2 (node_ext.2 hc)))⟩) (fun hI => ?_)
      · have h3 : at' B.1 (i : Int) = (⟨(v : Int), (A.2 : Int), (B.2 : Int)⟩ : GDNode) := node_ext.1 h2
        have h4 := (hrw i hi).1 h3
        rw [if_pos (List.mem_of_getElem? h4), idxOf_first h4 (fun j hj hc => hI j hj ((hrw j (by omega)).2 hc))] at hQ
        exact hQ
      · rw [if_neg (fun hm => by
          obtain ⟨i, hi⟩ := List.mem_iff_getElem?.1 hm
          have hil := (List.getElem?_eq_some_iff.1 hi).1
          exact hI i hil ((hrw i hil).2 hi))] at hQ
        have hlen : (B.1 ++ [(⟨(v : Int), (A.2 : Int), (B.2 : Int)⟩ : GDNode)]).length = B.1.length + 1 := by simp
        rw [hlen]
        refine ⟨by omega, by unfold rng; omega, ?_⟩
        rw [show (1 + ((B.1.length + 1 : Nat) : Int)) = ((2 + B.1.length : Nat) : Int) by omega]
        exact hQ
theorem ref15_Of_s (hO : Or14 o) {f : Asg → Bool} {Q : GDiagram → Prop} (hd : Dep f (natO o)) (hQ : Q (canD o f)) : ref15_Of_W (tabF o.length f) o Q := by
  have hn := hO.le
  have hp := dpow24 hn
  have hfe : (fun σ => f (stA (bset (apA o (fun _ => false) 0 σ) o.length))) = f := by
    funext σ
    refine hd _ _ fun v hv => ?_
    have hvn : v < o.length := by have := (hO.ord.mem (l := 0) (v := v)).1 (by simpa using hv); exact this.1
    rw [stA_bset hvn]
    unfold apA
    rw [if_neg (by omega)]
  refine ⟨by omega, o.length + 1, ?_⟩
  have e0 : ((0 : Nat) : Int) = (0 : Int) := rfl
  have e1 : bset (fun _ => false) o.length = 0 := by
    have : ∀ n, bset (fun _ => false) n = 0 := fun n => by
      induction n with
      | zero => rfl
      | succ n ih => rw [bset, ih, if_neg (by simp)]
    exact this _
  have := ref15_add_s hO (F := fun s => f (stA s)) (table := tabF o.length f) (root := 0) tabF_len (fun s hs => tabF_at hs) o.length 0 (o.length + 1) (fun _ => false) [] (fun u r _ r2 => Q (⟨r, u, r2⟩ : GDiagram)) (by omega) (by omega) (fun v _ _ => rfl) (by simp; omega) (by
    rw [List.drop_zero, hfe]; exact hQ)
  rw [e1] at this
  exact this
end
end Go.Gg
