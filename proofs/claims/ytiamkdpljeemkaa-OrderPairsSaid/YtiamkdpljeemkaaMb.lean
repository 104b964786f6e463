/- Tables of nodes: the program's functions that make nodes and choose. Conditions: none. -/
import Derived.Test.YtiamkdpljeemkaaMa
import Derived.Test.YtiamkdpljeemkaaWa
/- Tables of nodes: the program's functions that make nodes and choose. Conditions: none. -/
namespace Go.Gg
/-- A table of an order. -/
structure TS (o place : List Int) (nodes : List GDNode) (unique memo : GMap Int) : Prop where
  ord : Or14 o
  pl : place.length = o.length
  pl2 : ∀ v : Nat, v < o.length → at' place (v : Int) = (levO o v : Int)
  tb : TB o.length (levO o) nodes unique memo
abbrev lvO (o : List Int) (nodes : List GDNode) (r : Int) : Nat := lvl o.length (levO o) nodes r.toNat
section
variable {o place : List Int} {nodes : List GDNode} {unique memo : GMap Int}
theorem TS.wt (h : TS o place nodes unique memo) : WT o.length (levO o) nodes := h.tb.wt
theorem TS.at (h : TS o place nodes unique memo) {r : Int} (hr : Vd nodes r) (h2 : 2 ≤ r) : nodes[(r - 2).toNat]? = some (at' nodes (r - 2)) ∧ (0 ≤ (at' nodes (r - 2)).Var ∧ (at' nodes (r - 2)).Var < o.length) ∧ (0 ≤ (at' nodes (r - 2)).Lo ∧ (at' nodes (r - 2)).Lo < r) ∧ (0 ≤ (at' nodes (r - 2)).Hi ∧ (at' nodes (r - 2)).Hi < r) ∧
    lvO o nodes r = levO o (at' nodes (r - 2)).Var.toNat ∧ lvO o nodes r < lvO o nodes (at' nodes (r - 2)).Lo ∧ lvO o nodes r < lvO o nodes (at' nodes (r - 2)).Hi := by
  have h0 := hr.1
  have h1 := hr.2
  have hx := at_get (N := nodes) (i := (r - 2).toNat) (by omega)
  rw [show (((r - 2).toNat : Nat) : Int) = r - 2 by omega] at hx
  obtain ⟨a, b, c, d, e, f⟩ := h.wt.nd _ _ hx
  have hl : lvO o nodes r = levO o (at' nodes (r - 2)).Var.toNat := by
    have := lvl_at (n := o.length) (lev := levO o) hx
    rw [show 2 + (r - 2).toNat = r.toNat by omega] at this
    exact this
  exact ⟨hx, a, ⟨by omega, by omega⟩, ⟨by omega, by omega⟩, hl, by rw [hl]; exact e, by rw [hl]; exact f⟩
/-- A reference with the event at a level set. -/
def kid (o : List Int) (nodes : List GDNode) (r : Int) (L : Nat) (b : Bool) : Int := if lvO o nodes r = L then (bif b then (at' nodes (r - 2)).Hi else (at' nodes (r - 2)).Lo) else r
end
end Go.Gg
namespace Go.Gg
section
variable {o place : List Int} {nodes : List GDNode} {unique memo : GMap Int}
/-- What an operation on a table leaves: a reference with a function, so many nodes more. -/
structure After (o place : List Int) (nodes nodes' : List GDNode) (unique' memo' : GMap Int) (r : Int) (f : Asg → Bool) (c : Nat) : Prop where
  ts : TS o place nodes' unique' memo'
  pre : Pre nodes nodes'
  vd : Vd nodes' r
  dn : dn nodes' r = f
  le : nodes'.length ≤ nodes.length + c
/-- What has been replaced. -/
def Done (nodes : List GDNode) (e : Nat) (g : Asg → Bool) (done : GMap Int) : Prop := ∀ r x, mget done [r] = some x → Vd nodes r ∧ Vd nodes x ∧ ∀ σ, dn nodes x σ = dn nodes r (setA σ e (g σ))
theorem Done.pre {nodes' : List GDNode} {e : Nat} {g : Asg → Bool} {done : GMap Int} (h : Done nodes e g done) (hp : Pre nodes nodes') : Done nodes' e g done := fun r x hx => by
  obtain ⟨a, b, c⟩ := h r x hx
  exact ⟨a.pre hp, b.pre hp, fun σ => by rw [dn_pre a hp, dn_pre b hp]; exact c σ⟩
end
end Go.Gg
/- Lists are the same; a new table, what is imported, what is opened. Conditions: none. -/
namespace Go.Gg
theorem rep_len {α : Type} {n : Int} {x : α} (h : 0 ≤ n) : ((rep' n x).length : Int) = n := by simp [rep']; omega
theorem list_ne {α : Type} [Inhabited α] {a b : List α} {i : Int} (h : at' a i ≠ at' b i) : a ≠ b := fun he => h (by rw [he])
/-- A comparison of two lists of the same length, item by item. -/
theorem eqScan {α : Type} [Inhabited α] {a b : List α} {Q : Bool → Prop} {E : α → α → Bool} (hE : ∀ x y, E x y = false ↔ x = y) [Decidable (a = b)] (la : a.length ≤ 9223372036854775807) (hl : a.length = b.length) (h : Q (decide (a = b))) :
    loopW (σ := Int) 0 fun x next1 =>
      condW (decide (x < (a.length : Int)))
        (((0 : Int) ≤ x ∧ x < (a.length : Int)) ∧
        ((0 : Int) ≤ x ∧ x < (b.length : Int)) ∧
        condW (E (at' a x) (at' b x))
          (Q false)
          (rng (x + 1) ∧
          next1 (x + 1)))
        (Q true) := by
  refine scanW (n := a.length) (fun i => at' a (i : Int) ≠ at' b (i : Int)) la (fun i next hi hI hn => ⟨⟨by omega, by omega⟩, ⟨by omega, by omega⟩, condB (fun hc => ?_) (fun hc => hn (fun hh => hh ((hE _ _).1 hc)))⟩) (fun hI => ?_)
  · have hne : at' a (i : Int) ≠ at' b (i : Int) := fun hh => by rw [(hE _ _).2 hh] at hc; cases hc
    rw [decide_eq_false (list_ne hne)] at h
    exact h
  · rw [decide_eq_true (eq_by hl fun i hi => by have := hI i hi; exact Classical.not_not.1 this)] at h
    exact h
theorem bne_eq {x y : Int} : (x != y) = false ↔ x = y := by simp
theorem base_Ints_s {a b : List Int} {Q : Bool → Prop} (la : a.length ≤ 9223372036854775807) (h : Q (decide (a = b))) : base_Ints_W a b Q :=
  condN (fun hc => by rw [decide_eq_false (fun he => hc (by rw [he]))] at h; exact h) (fun hc => eqScan (E := fun x y => x != y) (fun _ _ => bne_eq) la (by omega) h)
instance : DecidableEq GDiagram := fun a b => decidable_of_iff (a.Order = b.Order ∧ a.Nodes = b.Nodes ∧ a.Root = b.Root) (by cases a; cases b; simp)
/-- A diagram's function. -/
def dF (d : GDiagram) : Asg → Bool := dn d.Nodes d.Root
theorem VD.dep {d : GDiagram} (h : VD d) : Dep (dF d) (natO d.Order) := by
  have := h.wt.dep h.ord.ord h.root.2
  exact this.sub fun v hv => List.mem_of_mem_drop hv
/-- A table with its list of references. -/
structure Opn (l : List GDiagram) (place : List Int) (nodes : List GDNode) (unique memo : GMap Int) (refs : List Int) : Prop where
  ts : TS (at' l 0).Order place nodes unique memo
  len : refs.length = l.length
  le : nodes.length ≤ 4096 * l.length
  ref : ∀ i : Nat, i < l.length → Vd nodes (at' refs (i : Int)) ∧ dn nodes (at' refs (i : Int)) = dF (at' l (i : Int))
end Go.Gg
/- The functions of package algebra that give diagrams. Conditions: few events. -/
namespace Go.Gg
section
variable {o place : List Int} {nodes : List GDNode} {unique memo : GMap Int}
end
theorem at1 {x : GDiagram} : at' [x] (0 : Int) = x := rfl
theorem After.mono {o place : List Int} {nodes nodes' : List GDNode} {unique' memo' : GMap Int} {r : Int} {f : Asg → Bool} {c c' : Nat} (h : After o place nodes nodes' unique' memo' r f c) (hc : c ≤ c') : After o place nodes nodes' unique' memo' r f c' := ⟨h.ts, h.pre, h.vd, h.dn, Nat.le_trans h.le (Nat.add_le_add_left hc _)⟩
theorem Opn.r0 {l : List GDiagram} {place : List Int} {nodes : List GDNode} {unique memo : GMap Int} {refs : List Int} (h : Opn l place nodes unique memo refs) (hl : 0 < l.length) : Vd nodes (at' refs 0) ∧ dn nodes (at' refs 0) = dF (at' l 0) := h.ref 0 hl
theorem Opn.r1 {l : List GDiagram} {place : List Int} {nodes : List GDNode} {unique memo : GMap Int} {refs : List Int} (h : Opn l place nodes unique memo refs) (hl : 1 < l.length) : Vd nodes (at' refs 1) ∧ dn nodes (at' refs 1) = dF (at' l 1) := h.ref 1 hl
theorem Opn.r2 {l : List GDiagram} {place : List Int} {nodes : List GDNode} {unique memo : GMap Int} {refs : List Int} (h : Opn l place nodes unique memo refs) (hl : 2 < l.length) : Vd nodes (at' refs 2) ∧ dn nodes (at' refs 2) = dF (at' l 2) := h.ref 2 hl
section
variable {a b : GDiagram} {Q : GDiagram → Option Int → Prop}
end
end Go.Gg
/- How many states, and the least one, the program's and the reference's. Conditions: few events. -/
namespace Go.Gg
/-! ### The least state -/
structure Least (n : Nat) (f : Asg → Bool) (m : Nat) : Prop where
  lt : m < 2 ^ n
  yes : f (stA m) = true
  no : ∀ s, s < m → f (stA s) = false
theorem Least.ex {n : Nat} {f : Asg → Bool} : ∀ k, k ≤ 2 ^ n → (∀ s, s < k → f (stA s) = false) ∨ ∃ m, Least n f m
  | 0, _ => .inl fun s hs => absurd hs (by omega)
  | k + 1, hk => by
    rcases Least.ex (n := n) (f := f) k (by omega) with h | h
    · cases hf : f (stA k)
      · refine .inl fun s hs => ?_
        rcases Nat.lt_or_ge s k with h1 | h1
        · exact h s h1
        · obtain rfl : s = k := by omega
          exact hf
      · exact .inr ⟨k, by omega, hf, h⟩
    · exact .inr h
end Go.Gg
/- The reference's operations on tables. Conditions: none. -/
namespace Go.Gg
theorem tab_end {n : Nat} {g : Asg → Bool} {t : List Bool} (h : t.length = 2 ^ n) (h2 : ∀ s : Nat, s < 2 ^ n → at' t (s : Int) = g (stA s)) : t = tabF n g :=
  eq_by (by rw [h, tabF_len]) fun i hi => by rw [h2 i (by omega), tabF_at (by omega)]
/-- What a loop over a table leaves. -/
structure Upd (n : Nat) (g f : Asg → Bool) (i : Nat) (t : List Bool) : Prop where
  len : t.length = 2 ^ n
  at_ : ∀ s : Nat, s < 2 ^ n → at' t (s : Int) = if s < i then g (stA s) else f (stA s)
theorem Upd.start {n : Nat} {g f : Asg → Bool} : Upd n g f 0 (tabF n f) := ⟨tabF_len, fun s hs => by rw [if_neg (by omega), tabF_at hs]⟩
theorem Upd.old {n : Nat} {g f : Asg → Bool} {i : Nat} {t : List Bool} (h : Upd n g f i t) (hi : i < 2 ^ n) : at' t (i : Int) = f (stA i) := by rw [h.at_ i hi, if_neg (by omega)]
theorem Upd.step {n : Nat} {g f : Asg → Bool} {i : Nat} {t : List Bool} {b : Bool} (h : Upd n g f i t) (hi : i < 2 ^ n) (hb : b = g (stA i)) : Upd n g f (i + 1) (set' t (i : Int) b) := by
  refine ⟨by rw [set_len]; exact h.len, fun s hs => ?_⟩
  rw [at_set (by rw [h.len]; exact hi)]
  by_cases h1 : s = i
  · subst h1; rw [if_pos rfl, if_pos (by omega), hb]
  · rw [if_neg h1, h.at_ s hs]
    by_cases h2 : s < i
    · rw [if_pos h2, if_pos (by omega)]
    · rw [if_neg h2, if_neg (by omega)]
theorem Upd.keep {n : Nat} {g f : Asg → Bool} {i : Nat} {t : List Bool} (h : Upd n g f i t) (hb : f (stA i) = g (stA i)) : Upd n g f (i + 1) t := by
  refine ⟨h.len, fun s hs => ?_⟩
  rw [h.at_ s hs]
  by_cases h1 : s = i
  · subst h1; rw [if_neg (by omega), if_pos (by omega), hb]
  · by_cases h2 : s < i
    · rw [if_pos h2, if_pos (by omega)]
    · rw [if_neg h2, if_neg (by omega)]
theorem Upd.done {n : Nat} {g f : Asg → Bool} {t : List Bool} (h : Upd n g f (2 ^ n) t) : t = tabF n g := tab_end h.len fun s hs => by rw [h.at_ s hs, if_pos hs]
theorem Dep.const {b : Bool} {vs : List Nat} : Dep (fun _ => b) vs := fun _ _ _ => rfl
end Go.Gg
/- The diagrams of functions are accepted; the laws' own functions. Conditions: few events. -/
namespace Go.Gg
section
variable {o : List Int} {f : Asg → Bool}
end
end Go.Gg
/- Formulas: which nodes lie below the top, and the formula without the others. Conditions: none. -/
namespace Go.Gg
theorem at_set' {α : Type} [Inhabited α] {l : List α} {a : Int} {x : α} {j : Int} (ha : 0 ≤ a ∧ a < l.length) (hj : 0 ≤ j) : at' (set' l a x) j = if j = a then x else at' l j := by
  obtain ⟨n, rfl⟩ : ∃ n : Nat, a = n := ⟨a.toNat, by omega⟩
  obtain ⟨m, rfl⟩ : ∃ n : Nat, j = n := ⟨j.toNat, by omega⟩
  rw [at_set (by omega)]
  by_cases h : m = n
  · rw [if_pos h, if_pos (by omega)]
  · rw [if_neg h, if_neg (by omega)]
theorem take_snoc {α : Type} [Inhabited α] {l : List α} {j : Nat} (h : j < l.length) : l.take (j + 1) = l.take j ++ [at' l (j : Int)] := by
  rw [List.take_add_one, List.getElem?_eq_getElem h]
  simp [at', List.getD_eq_getElem?_getD, h]
theorem at_in {α : Type} [Inhabited α] {l : List α} {j : Nat} (h : j < l.length) : at' l (j : Int) ∈ l := by
  simp only [at', Int.toNat_natCast, List.getD_eq_getElem?_getD, List.getElem?_eq_getElem h, Option.getD_some]
  exact List.getElem_mem h
theorem in_at {α : Type} [Inhabited α] {l : List α} {x : α} (h : x ∈ l) : ∃ j : Nat, j < l.length ∧ at' l (j : Int) = x := by
  obtain ⟨j, hj, rfl⟩ := List.mem_iff_getElem.1 h
  exact ⟨j, hj, by simp [at', List.getD_eq_getElem?_getD, hj]⟩
section
variable {f : GFormula}
theorem argsIn (g : FG f) {i : Nat} (hi : i < f.Nodes.length) : ∀ a ∈ (at' f.Nodes (i : Int)).Args, 0 ≤ a ∧ a < f.Vars + i := fun a ha => by
  obtain ⟨j, hj, rfl⟩ := in_at ha
  exact (nodeE_ok (g.node i hi)).arg j hj
structure Below (f : GFormula) (k : Nat) (m : List Bool) : Prop where
  top : at' m f.Top = true
  cl : ∀ i : Nat, f.Nodes.length - k ≤ i → i < f.Nodes.length → at' m (f.Vars + i) = true → ∀ a ∈ (at' f.Nodes (i : Int)).Args, at' m a = true
end
end Go.Gg
/- The insertion sort that a stable sort of few elements is. Conditions: none. -/
namespace Go.Gg
theorem at_el {α : Type} [Inhabited α] {l : List α} {i : Nat} (h : i < l.length) : at' l (i : Int) = l[i] := by
  unfold at'
  rw [List.getD_eq_getElem?_getD, Int.toNat_natCast, List.getElem?_eq_getElem h]
  rfl
/-- Into a list that stands from right to left: past all elements that come behind x. -/
def insV (lt : Int → Int → Bool) (x : Int) : List Int → List Int
  | [] => [x]
  | b :: l => if lt x b then b :: insV lt x l else x :: b :: l
def insR (lt : Int → Int → Bool) (A : List Int) (x : Int) : List Int := (insV lt x A.reverse).reverse
def isort (lt : Int → Int → Bool) (l : List Int) : List Int := l.foldl (insR lt) []
section
variable {lt : Int → Int → Bool}
theorem insV_at {x : Int} : ∀ (C B : List Int), (∀ c ∈ C, lt x c = true) → (∀ b B', B = b :: B' → lt x b = false) → insV lt x (C ++ B) = C ++ x :: B
  | [], [], _, _ => rfl
  | [], b :: B, _, h => by rw [List.nil_append, insV, if_neg (by rw [h b B rfl]; simp)]; rfl
  | c :: C, B, h, h' => by
    rw [List.cons_append, insV, if_pos (h c (by simp)), insV_at C B (fun a ha => h a (by simp [ha])) h']
    rfl
theorem insR_at {x : Int} {B C : List Int} (h : ∀ c ∈ C, lt x c = true) (h' : ∀ b B', B = B' ++ [b] → lt x b = false) : insR lt (B ++ C) x = B ++ x :: C := by
  unfold insR
  rw [List.reverse_append, insV_at C.reverse B.reverse (fun c hc => h c (by simpa using hc)) (fun b B' hb => h' b B'.reverse (by
    have := congrArg List.reverse hb
    simpa using this))]
  simp
theorem insV_perm {x : Int} : ∀ l : List Int, (insV lt x l).Perm (x :: l)
  | [] => List.Perm.refl _
  | b :: l => by
    rw [insV]
    split
    · exact ((insV_perm l).cons b).trans (List.Perm.swap x b l)
    · exact List.Perm.refl _
theorem insR_perm {x : Int} {A : List Int} : (insR lt A x).Perm (A ++ [x]) := by
  unfold insR
  refine (List.reverse_perm _).trans ((insV_perm _).trans ?_)
  refine ((List.reverse_perm A).cons x).trans ?_
  exact (List.perm_append_singleton x A).symm
theorem isort_snoc {l : List Int} {x : Int} : isort lt (l ++ [x]) = insR lt (isort lt l) x := by simp [isort]
theorem isort_perm : ∀ l : List Int, (isort lt l).Perm l := snocInd (List.Perm.refl _) fun l x ih => by
  rw [isort_snoc]
  exact insR_perm.trans (ih.append_right [x])
theorem isort_len {l : List Int} : (isort lt l).length = l.length := (isort_perm l).length_eq
theorem isort_congr {lt' : Int → Int → Bool} : ∀ l : List Int, (∀ x ∈ l, ∀ y ∈ l, lt x y = lt' x y) → isort lt l = isort lt' l := snocInd (fun _ => rfl) fun l x ih h => by
  rw [isort_snoc, isort_snoc, ih (fun a ha b hb => h a (by simp [ha]) b (by simp [hb]))]
  have hm : ∀ y ∈ (isort lt' l).reverse, y ∈ l := fun y hy => (isort_perm l).mem_iff.1 (by simpa using hy)
  unfold insR
  generalize (isort lt' l).reverse = r at hm
  congr 1
  induction r with
  | nil => rfl
  | cons b r ih2 =>
    rw [insV, insV, h x (by simp) b (by simp [hm b (by simp)]), ih2 (fun y hy => hm y (by simp [hy]))]
end
/-- The program's insertion sort of a part, over the comparison's formula. -/
def isortG (C : Int → Int → (Int → Prop) → Prop) (a b : Int) (data : List Int) (Q : List Int → Prop) : Prop :=
  rng (a + 1) ∧
  loopW (σ := Int × (List Int)) ((a + 1), data) fun ⟨i, data1⟩ next1 =>
    condW (decide (i < b))
      (loopW (σ := Int × (List Int)) (i, data1) fun ⟨j, data2⟩ next2 =>
        condW (decide (a < j))
          (((0 : Int) ≤ j ∧ j < (data2.length : Int)) ∧
          rng (j - 1) ∧
          ((0 : Int) ≤ (j - 1) ∧ (j - 1) < (data2.length : Int)) ∧
          ∃ r, (C (at' data2 j) (at' data2 (j - 1)) fun y1 => y1 = r) ∧
          condW (decide (r < 0))
            (rng (j - 1) ∧
            rng (j - 1) ∧
            ((0 : Int) ≤ (j - 1) ∧ (j - 1) < (data2.length : Int)) ∧
            ((0 : Int) ≤ j ∧ j < (data2.length : Int)) ∧
            ((0 : Int) ≤ j ∧ j < (data2.length : Int)) ∧
            ((0 : Int) ≤ (j - 1) ∧ (j - 1) < (data2.length : Int)) ∧
            rng (j - 1) ∧
            next2 ((j - 1), (set' (set' data2 j (at' data2 (j - 1))) (j - 1) (at' data2 j))))
            (rng (i + 1) ∧
            next1 ((i + 1), data2)))
          (rng (i + 1) ∧
          next1 ((i + 1), data2)))
      (Q data1)
theorem at_mid {α : Type} [Inhabited α] {B T : List α} {x : α} : at' (B ++ x :: T) (B.length : Int) = x := by
  rw [at_el (by simp)]
  simp
theorem swap_mid {B T : List Int} {b x : Int} : set' (set' (B ++ b :: x :: T) ((B.length + 1 : Nat) : Int) b) (B.length : Int) x = B ++ x :: b :: T := by
  rw [set_nat, set_nat]
  rw [List.set_append_right _ _ (by omega), List.set_append_right _ _ (by omega)]
  simp
/-- The part from 'A' on of a list is sorted. -/
theorem isortG_at {C : Int → Int → (Int → Prop) → Prop} {c : Int → Int → Int} {A l D : List Int} {Q : List Int → Prop} (hC : ∀ x ∈ l, ∀ y ∈ l, ∀ K : Int → Prop, K (c x y) → C x y K) (hl : A.length + l.length + D.length ≤ 1099511627776)
    (hQ : Q (A ++ isort (fun x y => decide (c x y < 0)) l ++ D)) : isortG C (A.length : Int) ((A.length + l.length : Nat) : Int) (A ++ l ++ D) Q := by
  generalize hlt : (fun x y : Int => decide (c x y < 0)) = lt at hQ
  have hltd : ∀ x y, lt x y = decide (c x y < 0) := fun x y => by rw [← hlt]
  refine ⟨by unfold rng; omega, ?_⟩
  match l, hC, hl, hQ with
  | [], _, hl, hQ =>
    refine ⟨fun y => y.2 = A ++ [] ++ D ∧ y.1 = (A.length : Int) + 1, fun _ => 0, ⟨rfl, rfl⟩, ?_⟩
    rintro ⟨i, data⟩ ⟨h1, h2⟩
    dsimp only at h1 h2
    subst h1 h2
    refine condT (fun hc => ?_) (fun _ => hQ)
    simp only [List.length_nil, Nat.add_zero] at hc
    omega
  | z :: l', hC, hl, hQ =>
  generalize hL : z :: l' = l at hC hl hQ ⊢
  have hpos : 0 < l.length := by rw [← hL]; simp
  refine loopInv (n := l.length - 1) (fun k y => y.1 = (k : Int) + ((A.length : Int) + 1) ∧ y.2 = A ++ isort lt (l.take (k + 1)) ++ (l.drop (k + 1) ++ D)) (fun y => y.1) ((A.length : Int) + 1) (fun k y hy => hy.1) ⟨by dsimp only; omega, ?_⟩ ?_ ?_
  · dsimp only
    rw [← hL]
    simp [isort, insR, insV]
  · rintro k ⟨i, data⟩ next hk ⟨hi, hd⟩ hn
    dsimp only at hi hd
    subst hi hd
    have hk1 : k + 1 < l.length := by omega
    refine condT (fun _ => ?_) (fun hc => absurd (show (k : Int) + ((A.length : Int) + 1) < ((A.length + l.length : Nat) : Int) by omega) hc)
    obtain ⟨x, hx⟩ : ∃ x, l[k + 1] = x := ⟨_, rfl⟩
    have hxl : x ∈ l := hx ▸ List.getElem_mem hk1
    have hdrop : l.drop (k + 1) = x :: l.drop (k + 2) := by rw [List.drop_eq_getElem_cons hk1, hx]
    have htake : l.take (k + 2) = l.take (k + 1) ++ [x] := by rw [List.take_succ_eq_append_getElem hk1, hx]
    obtain ⟨S, hS⟩ : ∃ S, isort lt (l.take (k + 1)) = S := ⟨_, rfl⟩
    have hSl : S.length = k + 1 := by rw [← hS, isort_len, List.length_take]; omega
    have hSm : ∀ y ∈ S, y ∈ l := fun y hy => by
      rw [← hS] at hy
      exact List.mem_of_mem_take ((isort_perm _).mem_iff.1 hy)
    have hnext : isort lt (l.take (k + 1 + 1)) = insR lt S x := by rw [show k + 1 + 1 = k + 2 from rfl, htake, isort_snoc, hS]
    rw [hnext] at hn
    rw [hS, hdrop]
    have hfull : ∀ B E : List Int, B ++ E = S → A.length + (B.length + (E.length + 1)) + (l.drop (k + 2)).length = A.length + l.length := fun B E hBE => by
      have : B.length + E.length = k + 1 := by rw [← hSl, ← hBE, List.length_append]
      rw [List.length_drop]; omega
    refine ⟨fun y => ∃ B E, B ++ E = S ∧ (∀ e ∈ E, lt x e = true) ∧ y.1 = (A.length : Int) + (B.length : Int) ∧ y.2 = A ++ B ++ x :: (E ++ (l.drop (k + 2) ++ D)), fun y => y.1.toNat, ⟨S, [], by simp, fun e he => by simp at he, by dsimp only; rw [hSl]; omega, by simp⟩, ?_⟩
    rintro ⟨j, data⟩ ⟨B, E, hBE, hE, hj, hd⟩
    dsimp only at hj hd
    subst hj hd
    have hlen := hfull B E hBE
    have hdl : (A ++ B ++ x :: (E ++ (l.drop (k + 2) ++ D))).length = A.length + l.length + D.length := by
      simp only [List.length_append, List.length_cons] at hlen ⊢; omega
    have fin : (B = [] ∨ ∃ b B', B = B' ++ [b] ∧ lt x b = false) → rng ((k : Int) + ((A.length : Int) + 1) + 1) ∧ next ((k : Int) + ((A.length : Int) + 1) + 1, A ++ B ++ x :: (E ++ (l.drop (k + 2) ++ D))) := fun hB => by
      refine ⟨by unfold rng; omega, hn _ ⟨by dsimp only; omega, ?_⟩⟩
      dsimp only
      rw [← hBE, insR_at hE (fun b B' hb => by
        rcases hB with rfl | ⟨b2, B2, hb2, hlt2⟩
        · simp at hb
        · rw [hb2] at hb
          have := List.append_inj_right' hb rfl
          injection this with h1 _
          rw [← h1]; exact hlt2)]
      simp
    refine condT (fun hc => ?_) (fun hc => ?_)
    · obtain ⟨b, B', rfl⟩ : ∃ b B', B = B' ++ [b] := ⟨B.getLast (by rintro rfl; simp at hc), B.dropLast, (List.dropLast_concat_getLast _).symm⟩
      have hbl : b ∈ l := hSm b (by rw [← hBE]; simp)
      have hshape : A ++ (B' ++ [b]) ++ x :: (E ++ (l.drop (k + 2) ++ D)) = (A ++ B') ++ b :: x :: (E ++ (l.drop (k + 2) ++ D)) := by simp
      have hBl : (B' ++ [b]).length = B'.length + 1 := by simp
      have e1 : (A.length : Int) + ((B' ++ [b]).length : Int) = (((A ++ B').length + 1 : Nat) : Int) := by rw [hBl, List.length_append]; omega
      have e2 : (A.length : Int) + ((B' ++ [b]).length : Int) - 1 = (((A ++ B').length : Nat) : Int) := by rw [e1]; omega
      have a1 : at' (A ++ (B' ++ [b]) ++ x :: (E ++ (l.drop (k + 2) ++ D))) ((A.length : Int) + ((B' ++ [b]).length : Int)) = x := by
        have : A ++ (B' ++ [b]) ++ x :: (E ++ (l.drop (k + 2) ++ D)) = ((A ++ B') ++ [b]) ++ x :: (E ++ (l.drop (k + 2) ++ D)) := by simp
        rw [this, show (A.length : Int) + ((B' ++ [b]).length : Int) = (((A ++ B' ++ [b]).length : Nat) : Int) by rw [hBl]; simp only [List.length_append, List.length_singleton]; omega, at_mid]
      have a2 : at' (A ++ (B' ++ [b]) ++ x :: (E ++ (l.drop (k + 2) ++ D))) ((A.length : Int) + ((B' ++ [b]).length : Int) - 1) = b := by rw [hshape, e2, at_mid]
      have hAB : (A ++ B').length + 1 < A.length + l.length + D.length := by
        rw [hBl] at hlen
        rw [List.length_append]; omega
      refine ⟨by rw [hdl, e1]; omega, by rw [e2]; unfold rng; omega, by rw [hdl, e2]; omega, c x b, by rw [a1, a2]; exact hC x hxl b hbl _ rfl, condT (fun hr => ?_) (fun hr => ?_)⟩
      · rw [a1, a2]
        refine ⟨by rw [e2]; unfold rng; omega, by rw [e2]; unfold rng; omega, by rw [hdl, e2]; omega, by rw [hdl, e1]; omega, by rw [hdl, e1]; omega, by rw [hdl, e2]; omega, by rw [e2]; unfold rng; omega, ⟨B', b :: E, by rw [← hBE]; simp, fun e he => ?_, by dsimp only; rw [hBl]; omega, ?_⟩, ?_⟩
        · rcases List.mem_cons.1 he with rfl | he
          · rw [hltd]; exact decide_eq_true hr
          · exact hE e he
        · dsimp only
          rw [hshape, e1, show ((((A ++ B').length + 1 : Nat) : Int) - 1) = (((A ++ B').length : Nat) : Int) by omega, swap_mid]
          simp
        · dsimp only
          rw [hBl]; omega
      · exact fin (.inr ⟨b, B', rfl, by rw [hltd]; exact decide_eq_false hr⟩)
    · exact fin (.inl (by
        have : B.length = 0 := by omega
        exact List.eq_nil_of_length_eq_zero this))
  · rintro ⟨i, data⟩ next ⟨hi, hd⟩
    dsimp only at hi hd
    subst hi hd
    refine condT (fun hc => absurd hc (by omega)) (fun _ => ?_)
    rw [show l.length - 1 + 1 = l.length by omega, List.take_length, List.drop_length, List.nil_append]
    exact hQ
/-- The program's stable sort, where one block is enough. -/
def stabG (C : Int → Int → (Int → Prop) → Prop) (n : Int) (data : List Int) (Q : List Int → Prop) : Prop :=
  loopW (σ := Int × Int × (List Int)) (0, 20, data) fun ⟨a, b, data1⟩ next1 =>
    condW (decide (b ≤ n))
      (isortG C a b data1 fun data2 =>
      data2.length = data1.length ∧
      rng (b + 20) ∧
      next1 (b, (b + 20), data2))
      (isortG C a n data1 fun data3 =>
      data3.length = data1.length ∧
      loopW (σ := Int) 20 fun blockSize next2 =>
        condW (decide (blockSize < n))
          (rng (2 * blockSize) ∧
          loopW (σ := Unit) () fun _ _ =>
            condW (decide ((2 * blockSize) ≤ n))
              (rng (0 + blockSize) ∧
              False)
              (rng (0 + blockSize) ∧
              condW (decide ((0 + blockSize) < n))
                (False)
                (rng (blockSize * 2) ∧
                next2 (blockSize * 2))))
          (Q data3))
theorem stabG_few {C : Int → Int → (Int → Prop) → Prop} {c : Int → Int → Int} {l : List Int} {Q : List Int → Prop} (hC : ∀ x ∈ l, ∀ y ∈ l, ∀ K : Int → Prop, K (c x y) → C x y K) (hl : l.length < 20) (hQ : Q (isort (fun x y => decide (c x y < 0)) l)) : stabG C (l.length : Int) l Q := by
  refine ⟨fun y => y = (0, 20, l), fun _ => 0, rfl, ?_⟩
  rintro _ rfl
  refine condT (fun hc => by omega) (fun _ => ?_)
  have := isortG_at (C := C) (c := c) (A := []) (D := []) (l := l) (Q := fun data3 => data3.length = l.length ∧ loopW (σ := Int) 20 fun blockSize next2 =>
        condW (decide (blockSize < (l.length : Int)))
          (rng (2 * blockSize) ∧
          loopW (σ := Unit) () fun _ _ =>
            condW (decide ((2 * blockSize) ≤ (l.length : Int)))
              (rng (0 + blockSize) ∧
              False)
              (rng (0 + blockSize) ∧
              condW (decide ((0 + blockSize) < (l.length : Int)))
                (False)
                (rng (blockSize * 2) ∧
                next2 (blockSize * 2))))
          (Q data3)) hC (by simp; omega) (by
    rw [List.nil_append, List.append_nil]
    refine ⟨isort_len, fun y => y = 20, fun _ => 0, rfl, ?_⟩
    rintro _ rfl
    exact condT (fun hc => by omega) (fun _ => hQ))
  simpa using this
end Go.Gg
/- Sums of numbers; the number of pairs in unlike order is a metric. Conditions: none. -/
namespace Go.Gg
def sm : Nat → (Nat → Nat) → Nat
  | 0, _ => 0
  | n + 1, f => sm n f + f n
theorem sm_congr {f g : Nat → Nat} : ∀ n, (∀ i, i < n → f i = g i) → sm n f = sm n g
  | 0, _ => rfl
  | n + 1, h => by rw [sm, sm, sm_congr n (fun i hi => h i (by omega)), h n (by omega)]
theorem sm_le {f g : Nat → Nat} : ∀ n, (∀ i, i < n → f i ≤ g i) → sm n f ≤ sm n g
  | 0, _ => Nat.le_refl _
  | n + 1, h => by
    have h1 := sm_le (f := f) (g := g) n (fun i hi => h i (by omega))
    have h2 := h n (by omega)
    rw [sm, sm]; omega
theorem sm_add {f g : Nat → Nat} : ∀ n, sm n (fun i => f i + g i) = sm n f + sm n g
  | 0 => rfl
  | n + 1 => by rw [sm, sm, sm, sm_add n]; omega
theorem sm_zero : ∀ n, sm n (fun _ => 0) = 0
  | 0 => rfl
  | n + 1 => by rw [sm, sm_zero n]
theorem sm_const {c : Nat} : ∀ n, sm n (fun _ => c) = n * c
  | 0 => by simp [sm]
  | n + 1 => by rw [sm, sm_const n, Nat.succ_mul]
theorem sm_null {f : Nat → Nat} : ∀ n, sm n f = 0 → ∀ i, i < n → f i = 0
  | 0, _, i, hi => by omega
  | n + 1, h, i, hi => by
    rw [sm] at h
    by_cases he : i = n
    · subst he; omega
    · exact sm_null n (by omega) i (by omega)
theorem sm_swap {m : Nat} {f : Nat → Nat → Nat} : ∀ n, sm n (fun i => sm m (fun j => f i j)) = sm m (fun j => sm n (fun i => f i j))
  | 0 => by simp only [sm]; exact (sm_zero m).symm
  | n + 1 => by rw [sm, sm_swap n, ← sm_add]; exact sm_congr m fun j _ => rfl
theorem sm_one {c x : Nat} : ∀ n, sm n (fun i => if i = c then x else 0) = if c < n then x else 0
  | 0 => by simp [sm]
  | n + 1 => by
    rw [sm, sm_one n]
    by_cases h : n = c
    · subst h; simp
    · rw [if_neg h]
      by_cases h2 : c < n
      · rw [if_pos h2, if_pos (by omega), Nat.add_zero]
      · rw [if_neg h2, if_neg (by omega)]
/-- A sum over the first of more. -/
theorem sm_part {f : Nat → Nat} {k : Nat} : ∀ n, k ≤ n → sm n (fun i => if i < k then f i else 0) = sm k f
  | 0, h => by obtain rfl : k = 0 := by omega
               rfl
  | n + 1, h => by
    by_cases hk : k = n + 1
    · subst hk; exact sm_congr _ fun i hi => if_pos hi
    · rw [sm, sm_part n (by omega), if_neg (by omega)]; rfl
/-- A bijection of the first numbers. -/
structure Bij (n : Nat) (p a : Nat → Nat) : Prop where
  lt : ∀ v, v < n → p v < n
  lt' : ∀ k, k < n → a k < n
  ap : ∀ v, v < n → a (p v) = v
  pa : ∀ k, k < n → p (a k) = k
theorem Bij.symm {n : Nat} {p a : Nat → Nat} (h : Bij n p a) : Bij n a p := ⟨h.lt', h.lt, h.pa, h.ap⟩
theorem Bij.inj {n : Nat} {p a : Nat → Nat} (h : Bij n p a) {u v : Nat} (hu : u < n) (hv : v < n) (he : p u = p v) : u = v := by rw [← h.ap u hu, he, h.ap v hv]
theorem sm_bij {n : Nat} {p a f : Nat → Nat} (h : Bij n p a) : sm n (fun v => f (p v)) = sm n f := by
  have e1 : sm n (fun v => f (p v)) = sm n (fun v => sm n (fun k => if k = p v then f k else 0)) := sm_congr n fun v hv => by
    have : sm n (fun k => if k = p v then f k else 0) = sm n (fun k => if k = p v then f (p v) else 0) := sm_congr n fun k _ => by
      by_cases hk : k = p v
      · rw [if_pos hk, if_pos hk, hk]
      · rw [if_neg hk, if_neg hk]
    rw [this, sm_one, if_pos (h.lt v hv)]
  rw [e1, sm_swap]
  refine sm_congr n fun k hk => ?_
  have : sm n (fun v => if k = p v then f k else 0) = sm n (fun v => if v = a k then f k else 0) := sm_congr n fun v hv => by
    by_cases hkv : k = p v
    · rw [if_pos hkv, if_pos (by rw [hkv, h.ap v hv])]
    · rw [if_neg hkv, if_neg (fun hc => hkv (by rw [hc, h.pa k hk]))]
  rw [this, sm_one, if_pos (h.lt' k hk)]
def ind (b : Prop) [Decidable b] : Nat := if b then 1 else 0
theorem ind_congr {b c : Prop} [Decidable b] [Decidable c] (h : b ↔ c) : ind b = ind c := by
  unfold ind
  by_cases hb : b
  · rw [if_pos hb, if_pos (h.1 hb)]
  · rw [if_neg hb, if_neg (fun hc => hb (h.2 hc))]
theorem ind_no {b : Prop} [Decidable b] (h : ¬ b) : ind b = 0 := if_neg h
theorem ind_yes {b : Prop} [Decidable b] (h : b) : ind b = 1 := if_pos h
theorem ind_null {b : Prop} [Decidable b] (h : ind b = 0) : ¬ b := fun hb => by rw [ind_yes hb] at h; omega
/-- The number of pairs in unlike order, by the places of the events. -/
def invD (n : Nat) (p q : Nat → Nat) : Nat := sm n fun v => sm n fun u => ind (p u < p v ∧ q v < q u)
/-- .. counted by the places of the one. -/
theorem invD_count {n : Nat} {p a q : Nat → Nat} (h : Bij n p a) : sm n (fun k => sm k fun j => ind (q (a k) < q (a j))) = invD n p q := by
  have e : ∀ k, k < n → sm k (fun j => ind (q (a k) < q (a j))) = sm n (fun j => ind (j < k ∧ q (a k) < q (a j))) := fun k hk => by
    rw [← sm_part n (by omega : k ≤ n)]
    refine sm_congr n fun j _ => ?_
    by_cases hj : j < k
    · rw [if_pos hj]; exact ind_congr ⟨fun h => ⟨hj, h⟩, fun h => h.2⟩
    · rw [if_neg hj]; exact (ind_no fun h => hj h.1).symm
  rw [sm_congr n e, ← sm_bij (f := fun k => sm n (fun j => ind (j < k ∧ q (a k) < q (a j)))) h]
  refine sm_congr n fun v hv => ?_
  rw [← sm_bij (f := fun j => ind (j < p v ∧ q (a (p v)) < q (a j))) h]
  refine sm_congr n fun u hu => ?_
  show ind (p u < p v ∧ q (a (p v)) < q (a (p u))) = _
  rw [h.ap v hv, h.ap u hu]
theorem invD_symm {n : Nat} {p q : Nat → Nat} : invD n p q = invD n q p := by
  unfold invD
  rw [sm_swap]
  exact sm_congr n fun u _ => sm_congr n fun v _ => ind_congr ⟨fun h => ⟨h.2, h.1⟩, fun h => ⟨h.2, h.1⟩⟩
theorem invD_tri {n : Nat} {p q b r : Nat → Nat} (h : Bij n q b) : invD n p r ≤ invD n p q + invD n q r := by
  unfold invD
  rw [← sm_add]
  refine sm_le n fun v hv => ?_
  rw [← sm_add]
  refine sm_le n fun u hu => ?_
  unfold ind
  by_cases h1 : p u < p v ∧ r v < r u
  · rw [if_pos h1]
    rcases Nat.lt_trichotomy (q u) (q v) with h2 | h2 | h2
    · rw [if_pos (show q u < q v ∧ r v < r u from ⟨h2, h1.2⟩)]; omega
    · have := h.inj hu hv h2; subst this; omega
    · rw [if_pos (show p u < p v ∧ q v < q u from ⟨h1.1, h2⟩)]; omega
  · rw [if_neg h1]; exact Nat.zero_le _
theorem invD_le {n : Nat} {p q : Nat → Nat} : 2 * invD n p q ≤ n * (n - 1) := by
  have e : 2 * invD n p q = sm n (fun v => sm n fun u => ind (p u < p v ∧ q v < q u) + ind (p v < p u ∧ q u < q v)) := by
    have : invD n p q = sm n (fun v => sm n fun u => ind (p v < p u ∧ q u < q v)) := by unfold invD; rw [sm_swap]
    rw [Nat.two_mul]
    conv => lhs; rw [show invD n p q + invD n p q = invD n p q + sm n (fun v => sm n fun u => ind (p v < p u ∧ q u < q v)) by rw [← this]]
    unfold invD
    rw [← sm_add]
    exact sm_congr n fun v _ => (sm_add n).symm
  have e2 : ∀ v, v < n → sm n (fun u => ind (p u < p v ∧ q v < q u) + ind (p v < p u ∧ q u < q v)) ≤ n - 1 := fun v hv => by
    have : sm n (fun u => ind (p u < p v ∧ q v < q u) + ind (p v < p u ∧ q u < q v)) + sm n (fun u => if u = v then 1 else 0) ≤ sm n (fun _ => 1) := by
      rw [← sm_add]
      refine sm_le n fun u hu => ?_
      unfold ind
      by_cases huv : u = v
      · subst huv
        have hno : ¬ (p u < p u ∧ q u < q u) := by omega
        rw [if_neg hno, if_pos rfl]; omega
      · rw [if_neg huv]
        by_cases h1 : p u < p v ∧ q v < q u
        · rw [if_pos h1, if_neg (by omega)]; omega
        · rw [if_neg h1]; split <;> omega
    rw [sm_one, if_pos hv, sm_const] at this
    omega
  rw [e]
  have := sm_le n e2
  rw [sm_const] at this
  exact this
/-- A place is the number of events before it. -/
theorem place_count {n : Nat} {p a : Nat → Nat} (h : Bij n p a) {u : Nat} (hu : u < n) : sm n (fun w => ind (p w < p u)) = p u := by
  rw [sm_bij (f := fun k => ind (k < p u)) h]
  have : sm n (fun k => ind (k < p u)) = sm n (fun k => if k < p u then 1 else 0) := rfl
  rw [this, sm_part (f := fun _ => 1) n (by have := h.lt u hu; omega), sm_const]; omega
theorem invD_zero {n : Nat} {p a q b : Nat → Nat} (hp : Bij n p a) (hq : Bij n q b) : invD n p q = 0 ↔ ∀ v, v < n → p v = q v := by
  constructor
  · intro h v hv
    rw [← place_count hp hv, ← place_count hq hv]
    refine sm_congr n fun w hw => ind_congr ?_
    have h1 : ¬ (p w < p v ∧ q v < q w) := ind_null (sm_null n (sm_null n h v hv) w hw)
    have h2 : ¬ (p v < p w ∧ q w < q v) := ind_null (sm_null n (sm_null n h w hw) v hv)
    by_cases hvw : w = v
    · subst hvw; omega
    · have h3 : p w ≠ p v := fun hc => hvw (hp.inj hw hv hc)
      have h4 : q w ≠ q v := fun hc => hvw (hq.inj hw hv hc)
      omega
  · intro h
    unfold invD
    rw [sm_congr n (g := fun _ => 0)]
    · exact sm_zero n
    · intro v hv
      rw [sm_congr n (g := fun _ => 0)]
      · exact sm_zero n
      · intro u hu
        exact ind_no fun hc => by rw [h u hu, h v hv] at hc; omega
/-! ### Exchanging two neighbours -/
theorem sm_two {n x y t : Nat} (hx : x < n) (hy : y < n) : sm n (fun v => sm n fun u => if v = x ∧ u = y then t else 0) = t := by
  have : ∀ v, v < n → sm n (fun u => if v = x ∧ u = y then t else 0) = if v = x then t else 0 := fun v _ => by
    by_cases hv : v = x
    · rw [if_pos hv]
      have : sm n (fun u => if v = x ∧ u = y then t else 0) = sm n (fun u => if u = y then t else 0) := sm_congr n fun u _ => by
        by_cases hu : u = y
        · rw [if_pos ⟨hv, hu⟩, if_pos hu]
        · rw [if_neg (fun hc => hu hc.2), if_neg hu]
      rw [this, sm_one, if_pos hy]
    · rw [if_neg hv]
      have : sm n (fun u => if v = x ∧ u = y then t else 0) = sm n (fun _ => 0) := sm_congr n fun u _ => if_neg fun hc => hv hc.1
      rw [this, sm_zero]
  rw [sm_congr n this, sm_one, if_pos hx]
/-- The pairs but that of x and y. -/
def invR (n x y : Nat) (p q : Nat → Nat) : Nat := sm n fun v => sm n fun u => if (v = y ∧ u = x) ∨ (v = x ∧ u = y) then 0 else ind (p u < p v ∧ q v < q u)
theorem invD_split {n x y : Nat} {p q : Nat → Nat} (hx : x < n) (hy : y < n) (hxy : p x < p y) : invD n p q = invR n x y p q + ind (q y < q x) := by
  have hne : x ≠ y := fun hc => by subst hc; omega
  have e := sm_two (n := n) (x := y) (y := x) (t := ind (q y < q x)) hy hx
  rw [← e]
  unfold invD invR
  rw [← sm_add]
  refine sm_congr n fun v _ => ?_
  rw [← sm_add]
  refine sm_congr n fun u _ => ?_
  by_cases h1 : v = y ∧ u = x
  · obtain ⟨rfl, rfl⟩ := h1
    rw [if_pos (.inl ⟨rfl, rfl⟩), if_pos ⟨rfl, rfl⟩, Nat.zero_add]
    exact ind_congr ⟨fun h => h.2, fun h => ⟨hxy, h⟩⟩
  · rw [if_neg h1]
    by_cases h2 : v = x ∧ u = y
    · obtain ⟨rfl, rfl⟩ := h2
      rw [if_pos (.inr ⟨rfl, rfl⟩)]
      exact ind_no fun h => by omega
    · rw [if_neg (fun h => h.elim h1 h2)]; rfl
theorem invR_congr {n x y : Nat} {p p' q : Nat → Nat} (h : ∀ u v, u < n → v < n → ¬ ((v = y ∧ u = x) ∨ (v = x ∧ u = y)) → (p u < p v ↔ p' u < p' v)) : invR n x y p q = invR n y x p' q := by
  unfold invR
  refine sm_congr n fun v hv => sm_congr n fun u hu => ?_
  by_cases h1 : (v = y ∧ u = x) ∨ (v = x ∧ u = y)
  · rw [if_pos h1, if_pos h1.symm]
  · rw [if_neg h1, if_neg (fun hc => h1 hc.symm)]
    exact ind_congr (and_congr_left fun _ => h u v hu hv h1)
/-- Places with two neighbours exchanged. -/
def exP (p : Nat → Nat) (l : Nat) : Nat → Nat := fun v => if p v = l then l + 1 else if p v = l + 1 then l else p v
theorem exP_iff {n : Nat} {p a : Nat → Nat} (h : Bij n p a) {l : Nat} (hl : l + 1 < n) {u v : Nat} (hu : u < n) (hv : v < n) (hn : ¬ ((v = a (l + 1) ∧ u = a l) ∨ (v = a l ∧ u = a (l + 1)))) : p u < p v ↔ exP p l u < exP p l v := by
  have e : ∀ w k, w < n → k < n → (p w = k ↔ w = a k) := fun w k hw hk => ⟨fun hc => by rw [← hc, h.ap w hw], fun hc => by rw [hc, h.pa k hk]⟩
  rw [← e v _ hv (by omega), ← e u _ hu (by omega), ← e v _ hv (by omega), ← e u _ hu (by omega)] at hn
  unfold exP
  split <;> split <;> (try split) <;> (try split) <;> omega
theorem inv_exchange {n : Nat} {p a q b : Nat → Nat} (hp : Bij n p a) (hq : Bij n q b) {l : Nat} (hl : l + 1 < n) : invD n p q = invD n (exP p l) q + 1 ∨ invD n (exP p l) q = invD n p q + 1 := by
  have hx := hp.lt' l (by omega); have hy := hp.lt' (l + 1) hl
  have px := hp.pa l (by omega); have py := hp.pa (l + 1) hl
  have e1 := invD_split (q := q) hx hy (by omega : p (a l) < p (a (l + 1)))
  have e2 := invD_split (p := exP p l) (q := q) hy hx (by unfold exP; rw [px, py, if_neg (by omega), if_pos rfl, if_pos rfl]; omega)
  have e3 : invR n (a l) (a (l + 1)) p q = invR n (a (l + 1)) (a l) (exP p l) q := invR_congr fun u v hu hv hn => exP_iff hp hl hu hv hn
  have hne : q (a l) ≠ q (a (l + 1)) := fun hc => by have := hq.inj hx hy hc; rw [this] at px; omega
  rw [e1, e2, e3]
  rcases Nat.lt_or_gt_of_ne hne with h | h
  · rw [ind_no (by omega : ¬ q (a (l + 1)) < q (a l)), ind_yes h]; omega
  · rw [ind_yes h, ind_no (by omega : ¬ q (a l) < q (a (l + 1)))]; omega
theorem inv_self {n : Nat} {p a : Nat → Nat} (hp : Bij n p a) {l : Nat} (hl : l + 1 < n) : invD n p (exP p l) = 1 := by
  have hx := hp.lt' l (by omega); have hy := hp.lt' (l + 1) hl
  have px := hp.pa l (by omega); have py := hp.pa (l + 1) hl
  have e1 := invD_split (q := exP p l) hx hy (by omega : p (a l) < p (a (l + 1)))
  have hi : exP p l (a (l + 1)) < exP p l (a l) := by unfold exP; rw [px, py, if_neg (by omega), if_pos rfl, if_pos rfl]; omega
  have e3 : invR n (a l) (a (l + 1)) p (exP p l) = 0 := by
    unfold invR
    rw [sm_congr n (g := fun _ => 0)]
    · exact sm_zero n
    · intro v hv
      rw [sm_congr n (g := fun _ => 0)]
      · exact sm_zero n
      · intro u hu
        split
        · rfl
        · rename_i hn
          exact ind_no fun hc => by
            have := (exP_iff hp hl hu hv hn).1 hc.1
            omega
  rw [e1, e3, ind_yes hi]
end Go.Gg
/- Loops whose outcome is known ahead; a node of a formula as a diagram. Conditions: few events. -/
namespace Go.Gg
section
variable {o place : List Int} {nodes : List GDNode} {unique memo : GMap Int}
end
end Go.Gg
/- Paths of a diagram to 1 and their cubes; the support of a diagram. Conditions: none. -/
namespace Go.Gg
section
variable {N : List GDNode}
/-- Cubes of events. -/
structure CubeOk (n : Nat) (c : GCube) : Prop where
  yes : 0 ≤ c.Yes ∧ c.Yes.toNat < 2 ^ n
  no : 0 ≤ c.No ∧ c.No.toNat < 2 ^ n
  dis : c.Yes.toNat &&& c.No.toNat = 0
end
end Go.Gg
/- Diagrams: which events a function depends on; numbers of nodes by places. Conditions: none. -/
namespace Go.Gg
section
variable {o : List Int} {f : Asg → Bool}
end
end Go.Gg
/- The diagram of a formula. Conditions: few events. -/
namespace Go.Gg
section
variable {o place : List Int} {nodes : List GDNode} {unique memo : GMap Int}
/-- How many references are needed: what a vote's row holds. -/
structure Need (nodes : List GDNode) (need : List Int) (k : Nat) (lo : Nat) (a b : Asg → Nat) : Prop where
  len : need.length = k + 1
  vd : ∀ m : Nat, m ≤ k → Vd nodes (at' need (m : Int))
  dn : ∀ m : Nat, m ≤ k → dn nodes (at' need (m : Int)) = fun σ => decide (m ≤ (if m ≤ lo then a σ else b σ))
end
end Go.Gg
/- Build: the only diagram of a formula. Conditions: few events. -/
namespace Go.Gg
section
variable {f : GFormula} {o : List Int}
end
end Go.Gg
/- Chapter 15: values, support, levels; the example of the laws. Conditions: none. -/
namespace Go.Gg
section
variable {d : GDiagram}
theorem err_W {e : Int} {A B : Prop} (h0 : e ≠ 0 → A) (h1 : e = 0 → B) : condW (Option.isSome (errO e)) A B := by
  by_cases h : e = 0
  · rw [h]; exact condB (fun hc => by cases hc) (fun _ => h1 h)
  · exact condB (fun _ => h0 h) (fun hc => by rw [errO_some h] at hc; cases hc)
end
end Go.Gg
/- Chapter 14: the natural order, neighbours exchanged, the distance. Conditions: none. -/
namespace Go.Gg
/-! ### Orders as lists without repetition -/
theorem Or14.nd {o : List Int} (h : Or14 o) : o.Nodup := by
  rw [List.Nodup, List.pairwise_iff_getElem]
  intro i j hi hj hij he
  have := h.inj i j hi hj (by unfold at'; rw [List.getD_eq_getElem?_getD, List.getD_eq_getElem?_getD, Int.toNat_natCast, Int.toNat_natCast, List.getElem?_eq_getElem hi, List.getElem?_eq_getElem hj]; exact he)
  omega
theorem Or14.mem {o : List Int} (h : Or14 o) : ∀ x ∈ o, 0 ≤ x ∧ x < o.length := fun x hx => by
  obtain ⟨i, hi, rfl⟩ := List.mem_iff_getElem.1 hx
  rw [← at_el hi]
  exact h.rg i hi
theorem Or14.has {o : List Int} (h : Or14 o) {v : Nat} (hv : v < o.length) : (v : Int) ∈ o := by
  have := h.at_lev hv
  rw [← this.2, at_el this.1]
  exact List.getElem_mem _
/-! ### The natural order -/
def nats (n : Nat) : List Int := (List.range n).map fun i : Nat => (i : Int)
theorem nats_len {n : Nat} : (nats n).length = n := by simp [nats]
theorem mem_nats {n : Nat} {x : Int} : x ∈ nats n ↔ 0 ≤ x ∧ x < n := by
  simp only [nats, List.mem_map, List.mem_range]
  constructor
  · rintro ⟨i, h, rfl⟩; omega
  · intro h; exact ⟨x.toNat, by omega, by omega⟩
theorem nats_succ {n : Nat} : nats (n + 1) = nats n ++ [(n : Int)] := by simp [nats, List.range_succ]
theorem nats_at {n i : Nat} (h : i < n) : at' (nats n) (i : Int) = (i : Int) := by rw [at_el (by rw [nats_len]; exact h)]; simp [nats]
theorem natural_s {n : Nat} {Q : List Int → Prop} (hn : n ≤ 1048576) (hQ : Q (nats n)) : order_natural_W n Q := by
  refine ⟨⟨by omega, by omega, by omega, by omega⟩, ?_⟩
  refine loopInv (n := n) (fun k y => y.1 = (k : Int) ∧ y.2.length = n ∧ ∀ i : Nat, i < k → at' y.2 (i : Int) = (i : Int)) (fun y => y.1) 0 (fun k y hy => by rw [hy.1]; omega) ⟨rfl, by simp [rep'], fun i hi => by omega⟩ ?_ ?_
  · rintro k ⟨x, out⟩ next hk ⟨hx, hl, hI⟩ hn1
    dsimp only at hx hl hI
    subst hx
    rw [Int.toNat_natCast]
    refine condT (fun _ => ⟨by omega, by unfold rng; omega, hn1 _ ⟨by dsimp only; omega, by dsimp only; rw [set_len]; exact hl, fun i hi => ?_⟩⟩) (fun hc => absurd (show (k : Int) < n by omega) hc)
    dsimp only
    rw [at_set (by omega)]
    split
    · rename_i he; rw [he]
    · exact hI i (by omega)
  · rintro ⟨x, out⟩ next ⟨hx, hl, hI⟩
    dsimp only at hx hl hI
    subst hx
    rw [Int.toNat_natCast]
    refine condT (fun hc => absurd hc (by omega)) (fun _ => ?_)
    rw [show out = nats n from eq_by (by rw [hl, nats_len]) (fun i hi => by rw [hI i (by omega), nats_at (by omega)])]
    exact hQ
theorem Natural_s {n : Nat} {Q : List Int → Option Int → Prop} (hn : n ≤ 24) (hQ : Q (nats n) none) : order_Natural_W n Q := by
  refine ⟨fun b => b = false, condT (fun hc => by omega) (fun _ => decide_eq_false (by omega)), fun b hb => ?_⟩
  subst hb
  exact condB (fun hc => by cases hc) (fun _ => natural_s (by omega) hQ)
/-! ### Two neighbours exchanged -/
def exO (o : List Int) (l : Int) : List Int := set' (set' o l (at' o (l + 1))) (l + 1) (at' o l)
section
variable {o : List Int}
theorem exO_len {l : Int} : (exO o l).length = o.length := by unfold exO; rw [set_len, set_len]
def swp (l i : Nat) : Nat := if i = l then l + 1 else if i = l + 1 then l else i
theorem swp_lt {l i n : Nat} (hl : l + 1 < n) (hi : i < n) : swp l i < n := by unfold swp; split <;> (try split) <;> omega
theorem swp_inj {l i j : Nat} (h : swp l i = swp l j) : i = j := by unfold swp at h; split at h <;> split at h <;> (try split at h) <;> (try split at h) <;> omega
theorem swp_swp {l i : Nat} : swp l (swp l i) = i := by
  unfold swp
  by_cases h1 : i = l
  · rw [if_pos h1, if_neg (by omega), if_pos rfl, h1]
  · rw [if_neg h1]
    by_cases h2 : i = l + 1
    · rw [if_pos h2, if_pos rfl, h2]
    · rw [if_neg h2, if_neg h1, if_neg h2]
theorem exO_at {l i : Nat} (hl : l + 1 < o.length) : at' (exO o l) (i : Int) = at' o ((swp l i : Nat) : Int) := by
  unfold exO
  rw [show ((l : Int) + 1) = ((l + 1 : Nat) : Int) by omega, at_set (by rw [set_len]; omega), at_set (by omega)]
  unfold swp
  by_cases h1 : i = l
  · subst h1; rw [if_neg (by omega : ¬ i = i + 1), if_pos rfl, if_pos rfl]
  · by_cases h2 : i = l + 1
    · subst h2; rw [if_pos rfl, if_neg h1, if_pos rfl]
    · rw [if_neg h2, if_neg h1, if_neg h1, if_neg h2]
theorem exO_ord (h : Or14 o) {l : Nat} (hl : l + 1 < o.length) : Or14 (exO o l) := by
  refine ⟨by rw [exO_len]; exact h.le, fun i hi => ?_, fun i j hi hj he => ?_⟩
  · rw [exO_len] at hi ⊢
    rw [exO_at hl]
    exact h.rg _ (swp_lt hl hi)
  · rw [exO_len] at hi hj
    rw [exO_at hl, exO_at hl] at he
    exact swp_inj (h.inj _ _ (swp_lt hl hi) (swp_lt hl hj) he)
theorem exO_twice {l : Nat} (hl : l + 1 < o.length) : exO (exO o l) l = o := by
  refine eq_by (by rw [exO_len, exO_len]) (fun i hi => ?_)
  rw [exO_at (by rw [exO_len]; exact hl), exO_at hl, swp_swp]
/-- The error of an exchange. -/
def exE (o : List Int) (l : Int) : Int := if ordE o o.length ≠ 0 then ordE o o.length else if l < 0 ∨ (o.length : Int) - 2 < l then 10 else 0
theorem exE_zero {l : Int} : exE o l = 0 ↔ Or14 o ∧ 0 ≤ l ∧ l + 1 < o.length := by
  unfold exE
  constructor
  · intro h
    split at h
    · rename_i h1; exact absurd h h1
    · rename_i h1
      split at h
      · cases h
      · exact ⟨ordE_zero (Classical.not_not.1 h1), by omega, by omega⟩
  · rintro ⟨h1, h2, h3⟩
    rw [if_neg (fun hc => hc (ordE_of h1)), if_neg (by omega)]
theorem Exchange_s {l : Int} {Q : List Int → Option Int → Prop} (h0 : exE o l ≠ 0 → Q [] (some (exE o l))) (h1 : exE o l = 0 → Q (exO o l) none) : order_Exchange_W o l Q := by
  refine order_Check_s (err_W (fun hc => ?_) (fun hz => ?_))
  · have e : exE o l = ordE o o.length := by unfold exE; rw [if_pos hc]
    rw [errO_ne' hc, ← e]
    exact h0 (by rw [e]; exact hc)
  have hO := ordE_zero hz
  have hle := hO.le
  refine ⟨fun b => b = decide (l < 0 ∨ (o.length : Int) - 2 < l), condT (fun hc => (decide_eq_true (.inl hc)).symm) (fun hc => ⟨by unfold rng; omega, decide_eq_decide.2 (by omega)⟩), fun b hb => ?_⟩
  subst hb
  refine condT (fun hc => ?_) (fun hc => ?_)
  · have e : exE o l = 10 := by unfold exE; rw [if_neg (by simp [hz]), if_pos hc]
    have := h0 (by rw [e]; decide)
    rw [e] at this
    exact this
  · have e : exE o l = 0 := exE_zero.2 ⟨hO, by omega, by omega⟩
    rw [Int.toNat_natCast]
    exact ⟨⟨by omega, by omega, by omega, by omega⟩, by unfold rng; omega, by unfold rng; omega, by omega, by omega, by omega, by omega, h1 e⟩
theorem ref14_Exchange_s {l : Int} {Q : List Int → Prop} (h : exE o l = 0) (hQ : Q (exO o l)) : ref14_Exchange_W o l Q := by
  obtain ⟨hO, h0, h1⟩ := exE_zero.1 h
  have hle := hO.le
  exact ⟨by omega, by unfold rng; omega, by unfold rng; omega, by omega, by omega, by omega, by omega, hQ⟩
end
end Go.Gg
/- Chapter 14: places and distance, of the program and of the reference. Conditions: none. -/
namespace Go.Gg
section
variable {o a b : List Int}
def atN (o : List Int) (k : Nat) : Nat := (at' o (k : Int)).toNat
theorem Or14.atN_lt (h : Or14 o) {k : Nat} (hk : k < o.length) : at' o (k : Int) = (atN o k : Int) ∧ atN o k < o.length := by
  have := h.rg k hk
  unfold atN
  exact ⟨by omega, by omega⟩
theorem Or14.bij (h : Or14 o) : Bij o.length (levO o) (atN o) := by
  refine ⟨fun v hv => (h.at_lev hv).1, fun k hk => (h.atN_lt hk).2, fun v hv => ?_, fun k hk => h.lev_at hk⟩
  unfold atN
  rw [(h.at_lev hv).2, Int.toNat_natCast]
/-- The places of the events. -/
def posO (o : List Int) : List Int := (List.range o.length).map fun v : Nat => (levO o v : Int)
theorem posO_len : (posO o).length = o.length := by simp [posO]
theorem posO_at {v : Nat} (h : v < o.length) : at' (posO o) (v : Int) = (levO o v : Int) := by rw [at_el (by rw [posO_len]; exact h)]; simp [posO]
theorem posO_ord (h : Or14 o) : Or14 (posO o) := by
  have hb := h.bij
  refine ⟨by rw [posO_len]; exact h.le, fun i hi => ?_, fun i j hi hj he => ?_⟩
  · rw [posO_len] at hi ⊢
    rw [posO_at hi]
    have := hb.lt i hi
    omega
  · rw [posO_len] at hi hj
    rw [posO_at hi, posO_at hj] at he
    exact hb.inj hi hj (by omega)
theorem posO_lev (h : Or14 o) {v : Nat} (hv : v < o.length) : levO (posO o) v = atN o v := by
  have hb := h.bij
  have hp := posO_ord h
  have h1 := hp.lev_at (i := atN o v) (by rw [posO_len]; exact hb.lt' v hv)
  rw [posO_at (hb.lt' v hv), Int.toNat_natCast, hb.pa v hv] at h1
  exact h1
theorem posO_twice (h : Or14 o) : posO (posO o) = o := by
  refine eq_by (by rw [posO_len, posO_len]) (fun i hi => ?_)
  rw [posO_len, posO_len] at hi
  rw [posO_at (by rw [posO_len]; exact hi), posO_lev h hi, (h.atN_lt hi).1]
theorem places_s (h : Or14 o) {Q : List Int → Prop} (hQ : Q (posO o)) : order_places_W o Q :=
  order_places_s h (fun r hl hr => by
    rw [show r = posO o from eq_by (by rw [hl, posO_len]) (fun i hi => by rw [hr i (by omega), posO_at (by omega)])]
    exact hQ)
theorem Positions_s {Q : List Int → Option Int → Prop} (h0 : ordE o o.length ≠ 0 → Q [] (some (ordE o o.length))) (h1 : Or14 o → Q (posO o) none) : order_Positions_W o Q :=
  order_Positions_s (fun hc => by rw [errO_ne' hc]; exact h0 hc) (fun h r hl hr => by
    rw [show r = posO o from eq_by (by rw [hl, posO_len]) (fun i hi => by rw [hr i (by omega), posO_at (by omega)])]
    exact h1 h)
theorem ref14_Positions_s (h : Or14 o) {Q : List Int → Prop} (hQ : Q (posO o)) : ref14_Positions_W o Q := by
  have hle := h.le
  refine loopUp (n := o.length) (fun i => ((i : Int), (posO o).take i)) (fun y => y.1) 0 (fun i => by dsimp only; omega) (by simp) ?_ ?_
  · intro i next hi hn
    refine condT (fun _ => h.place hi ?_) (fun hc => absurd (show (i : Int) < o.length by omega) hc)
    have e : (posO o).take i ++ [(levO o i : Int)] = (posO o).take (i + 1) := by
      have hi' : i < (posO o).length := by rw [posO_len]; exact hi
      rw [List.take_add_one, List.getElem?_eq_getElem hi', ← at_el hi', posO_at hi]
      rfl
    rw [e]
    refine ⟨by have := List.length_take_le (i + 1) (posO o); omega, by unfold rng; omega, ?_⟩
    have := hn
    simpa using this
  · intro next
    refine condT (fun hc => by first | omega | (dsimp only at hc; omega)) (fun _ => ?_)
    try dsimp only
    rw [List.take_of_length_le (by rw [posO_len]; exact Nat.le_refl _)]
    exact hQ
/-- The number of pairs in unlike order. -/
def disM (a b : List Int) : Nat := invD a.length (levO a) (levO b)
def disE (a b : List Int) : Int := if ordE a a.length ≠ 0 then ordE a a.length else if ordE b b.length ≠ 0 then ordE b b.length else if a.length ≠ b.length then 11 else 0
theorem disE_zero : disE a b = 0 ↔ Or14 a ∧ Or14 b ∧ a.length = b.length := by
  unfold disE
  constructor
  · intro h
    split at h
    · rename_i h1; exact absurd h h1
    · split at h
      · rename_i h1; exact absurd h h1
      · split at h
        · cases h
        · rename_i h1 h2 h3
          exact ⟨ordE_zero (Classical.not_not.1 h1), ordE_zero (Classical.not_not.1 h2), Classical.not_not.1 h3⟩
  · rintro ⟨h1, h2, h3⟩
    rw [if_neg (fun hc => hc (ordE_of h1)), if_neg (fun hc => hc (ordE_of h2)), if_neg (fun hc => hc h3)]
/-- The pairs that end at one of the first places. -/
def cntD (q : Nat → Nat) (f : Nat → Nat) (k : Nat) : Nat := sm k fun i => sm i fun j => ind (q (f i) < q (f j))
theorem cnt_small (q f : Nat → Nat) : ∀ n k : Nat, n ≤ 24 → k ≤ n → cntD q f k ≤ 576 := by
  intro n k hn hk
  have h1 : cntD q f k ≤ sm k fun _ => 24 := sm_le k fun i hi => by
    refine Nat.le_trans (sm_le (g := fun _ => 1) i fun j _ => ?_) ?_
    · unfold ind; split <;> omega
    · rw [sm_const]; omega
  rw [sm_const] at h1
  omega
theorem cnt_inner (q f : Nat → Nat) (i : Nat) : ∀ j, j ≤ i → sm j (fun j => ind (q (f i) < q (f j))) ≤ j := by
  intro j _
  refine Nat.le_trans (sm_le (g := fun _ => 1) j fun j _ => ?_) (by rw [sm_const]; omega)
  unfold ind; split <;> omega
theorem disM_cnt (ha : Or14 a) : cntD (levO b) (atN a) a.length = disM a b := invD_count ha.bij
theorem sub_at {k j : Nat} (hk : k ≤ a.length) (hj : j < k) : at' (sub' a 0 (k : Int)) (j : Int) = at' a (j : Int) := by
  have hl : j < (sub' a 0 (k : Int)).length := by simp [sub']; omega
  rw [at_el hl, at_el (by omega)]
  simp [sub']
theorem sub_len {k : Nat} (hk : k ≤ a.length) : (sub' a 0 (k : Int)).length = k := by simp [sub']; omega
theorem Distance_s {Q : Int → Option Int → Prop} (h0 : disE a b ≠ 0 → Q 0 (some (disE a b))) (h1 : disE a b = 0 → Q (disM a b : Int) none) : order_Distance_W a b Q := by
  refine loopUp (n := if ordE a a.length ≠ 0 then 0 else if ordE b b.length ≠ 0 then 1 else 2) (fun i => (i : Int)) (fun y => y) 0 (fun i => by omega) rfl ?_ ?_
  · intro i next hi hn
    have hlt : (i : Int) < ([a, b].length : Int) := by
      have : i < 2 := by split at hi <;> (try split at hi) <;> omega
      simp; omega
    refine condT (fun _ => ⟨⟨by omega, hlt⟩, order_Check_s ?_⟩) (fun hc => absurd hlt hc)
    have hz : ordE (at' [a, b] (i : Int)) ((at' [a, b] (i : Int)).length : Int) = 0 := by
      split at hi
      · omega
      · rename_i ha
        split at hi
        · obtain rfl : i = 0 := by omega
          exact Classical.not_not.1 ha
        · rename_i hb
          obtain rfl | rfl : i = 0 ∨ i = 1 := by omega
          · exact Classical.not_not.1 ha
          · exact Classical.not_not.1 hb
    rw [hz]
    exact condB (fun hb => by cases hb) (fun _ => ⟨by unfold rng; simp at hlt; omega, by simpa using hn⟩)
  · intro next
    by_cases ha : ordE a a.length ≠ 0
    · rw [if_pos ha]
      have e : disE a b = ordE a a.length := by unfold disE; rw [if_pos ha]
      refine condT (fun _ => ⟨⟨by omega, by simp⟩, order_Check_s ?_⟩) (fun hc => absurd (by simp) hc)
      show condW (Option.isSome (errO (ordE a a.length))) _ _
      rw [errO_ne' ha]
      refine condB (fun _ => ?_) (fun hb => by cases hb)
      have := h0 (by rw [e]; exact ha)
      rw [e] at this
      show Q 0 (errO (ordE a a.length))
      rw [errO_ne' ha]
      exact this
    · rw [if_neg ha]
      by_cases hb : ordE b b.length ≠ 0
      · rw [if_pos hb]
        have e : disE a b = ordE b b.length := by unfold disE; rw [if_neg ha, if_pos hb]
        refine condT (fun _ => ⟨⟨by omega, by simp⟩, order_Check_s ?_⟩) (fun hc => absurd (by simp) hc)
        show condW (Option.isSome (errO (ordE b b.length))) _ _
        rw [errO_ne' hb]
        refine condB (fun _ => ?_) (fun hb => by cases hb)
        have := h0 (by rw [e]; exact hb)
        rw [e] at this
        show Q 0 (errO (ordE b b.length))
        rw [errO_ne' hb]
        exact this
      · rw [if_neg hb]
        refine condT (fun hc => absurd hc (by simp)) (fun _ => condN (fun hne => ?_) (fun hl => ?_))
        · have e : disE a b = 11 := by unfold disE; rw [if_neg ha, if_neg hb, if_pos (by omega)]
          have := h0 (by rw [e]; decide)
          rwa [e] at this
        · have oa := ordE_zero (Classical.not_not.1 ha)
          have ob := ordE_zero (Classical.not_not.1 hb)
          have hl' : a.length = b.length := by omega
          have hle := oa.le
          refine places_s ob ?_
          have hval : ∀ k, k < a.length → (0 ≤ at' a (k : Int) ∧ at' a (k : Int) < ((posO b).length : Int)) ∧ at' (posO b) (at' a (k : Int)) = (levO b (atN a k) : Int) := fun k hk => by
            have h3 := oa.atN_lt hk
            rw [h3.1, posO_len, posO_at (by omega)]
            exact ⟨by omega, rfl⟩
          refine loopUp (n := a.length) (fun i => ((cntD (levO b) (atN a) i : Int), (i : Int))) (fun y => y.2) 0 (fun i => by dsimp only; omega) rfl ?_ ?_
          · intro i next2 hi hn2
            refine condT (fun _ => ⟨⟨by omega, by omega⟩, ⟨by omega, by omega, by omega⟩, ?_⟩) (fun hc => absurd (show (i : Int) < a.length by omega) hc)
            refine loopUp (n := i) (fun j => (((cntD (levO b) (atN a) i + sm j (fun j => ind (levO b (atN a i) < levO b (atN a j))) : Nat) : Int), (j : Int))) (fun y => y.2) 0 (fun j => by dsimp only; omega) (by simp [sm]) ?_ ?_
            · intro j next3 hj hn3
              have c1 := cnt_small (levO b) (atN a) a.length i hle (by omega)
              have c2 := cnt_inner (levO b) (atN a) i (j + 1) (by omega)
              have hsl := sub_len (a := a) (k := i) (by omega)
              try dsimp only
              rw [hsl, sub_at (by omega) hj]
              have v1 := hval i hi
              have v2 := hval j (by omega)
              refine condT (fun _ => ⟨⟨by omega, by omega⟩, v2.1, v1.1, ?_⟩) (fun hc => absurd (show (j : Int) < i by omega) hc)
              rw [v1.2, v2.2]
              have hs : sm (j + 1) (fun j => ind (levO b (atN a i) < levO b (atN a j))) = sm j (fun j => ind (levO b (atN a i) < levO b (atN a j))) + ind (levO b (atN a i) < levO b (atN a j)) := rfl
              rw [hs] at hn3 c2
              refine condT (fun hc => ?_) (fun hc => ?_)
              · rw [ind_yes (by omega)] at hn3 c2
                refine ⟨by unfold rng; omega, by unfold rng; omega, ?_⟩
                have e : (((cntD (levO b) (atN a) i + (sm j (fun j => ind (levO b (atN a i) < levO b (atN a j))) + 1) : Nat) : Int), ((j + 1 : Nat) : Int)) = (((cntD (levO b) (atN a) i + sm j (fun j => ind (levO b (atN a i) < levO b (atN a j))) : Nat) : Int) + 1, (j : Int) + 1) := by
                  refine Prod.ext ?_ ?_ <;> simp only [] <;> omega
                rw [← e]
                exact hn3
              · rw [ind_no (by omega)] at hn3
                exact ⟨by unfold rng; omega, by simpa using hn3⟩
            · intro next3
              have hsl := sub_len (a := a) (k := i) (by omega)
              try dsimp only
              rw [hsl]
              exact condT (fun hc => by omega) (fun _ => ⟨by unfold rng; omega, by simpa [cntD, sm] using hn2⟩)
          · intro next2
            refine condT (fun hc => by first | omega | (dsimp only at hc; omega)) (fun _ => ?_)
            try dsimp only
            rw [disM_cnt oa]
            exact h1 (disE_zero.2 ⟨oa, ob, hl'⟩)
theorem ref14_Distance_s (oa : Or14 a) (ob : Or14 b) (hl : a.length = b.length) {Q : Int → Prop} (hQ : Q (disM a b : Int)) : ref14_Distance_W a b Q := by
  have hle := oa.le
  refine loopUp (n := a.length) (fun i => ((cntD (levO b) (atN a) i : Int), (i : Int))) (fun y => y.2) 0 (fun i => by dsimp only; omega) rfl ?_ ?_
  · intro i next2 hi hn2
    refine condT (fun _ => ?_) (fun hc => absurd (show (i : Int) < a.length by omega) hc)
    refine loopUp (n := i) (fun j => (((cntD (levO b) (atN a) i + sm j (fun j => ind (levO b (atN a i) < levO b (atN a j))) : Nat) : Int), (j : Int))) (fun y => y.2) 0 (fun j => by dsimp only; omega) (by simp [sm]) ?_ ?_
    · intro j next3 hj hn3
      have c1 := cnt_small (levO b) (atN a) a.length i hle (by omega)
      have c2 := cnt_inner (levO b) (atN a) i (j + 1) (by omega)
      try dsimp only
      have v1 := oa.atN_lt hi
      have v2 := oa.atN_lt (k := j) (by omega)
      rw [v1.1, v2.1]
      refine condT (fun _ => ⟨⟨by omega, by omega⟩, _, ob.place (by omega) rfl, ⟨by omega, by omega⟩, _, ob.place (by omega) rfl, ?_⟩) (fun hc => absurd (show (j : Int) < i by omega) hc)
      have hs : sm (j + 1) (fun j => ind (levO b (atN a i) < levO b (atN a j))) = sm j (fun j => ind (levO b (atN a i) < levO b (atN a j))) + ind (levO b (atN a i) < levO b (atN a j)) := rfl
      rw [hs] at hn3 c2
      refine condT (fun hc => ?_) (fun hc => ?_)
      · rw [ind_yes (by omega)] at hn3 c2
        refine ⟨by unfold rng; omega, by unfold rng; omega, ?_⟩
        have e : (((cntD (levO b) (atN a) i + (sm j (fun j => ind (levO b (atN a i) < levO b (atN a j))) + 1) : Nat) : Int), ((j + 1 : Nat) : Int)) = (((cntD (levO b) (atN a) i + sm j (fun j => ind (levO b (atN a i) < levO b (atN a j))) : Nat) : Int) + 1, (j : Int) + 1) := by
          refine Prod.ext ?_ ?_ <;> simp only [] <;> omega
        rw [← e]
        exact hn3
      · rw [ind_no (by omega)] at hn3
        exact ⟨by unfold rng; omega, by simpa using hn3⟩
    · intro next3
      try dsimp only
      exact condT (fun hc => by omega) (fun _ => ⟨by unfold rng; omega, by simpa [cntD, sm] using hn2⟩)
  · intro next2
    refine condT (fun hc => by first | omega | (dsimp only at hc; omega)) (fun _ => ?_)
    try dsimp only
    rw [disM_cnt oa]
    exact hQ
end
end Go.Gg
/- Chapter 14: the order of a depth-first walk. Conditions: none. -/
namespace Go.Gg
section
variable {f : GFormula}
/-- A depth-first walk: the events met, the arguments seen. -/
def visF (f : GFormula) : Nat → Int → List Int × List Bool → List Int × List Bool
  | 0, _, s => s
  | fu + 1, arg, s => if at' s.2 arg = true then s else if arg < f.Vars then (s.1 ++ [arg], set' s.2 arg true) else (at' f.Nodes (arg - f.Vars)).Args.foldl (fun s x => visF f fu x s) (s.1, set' s.2 arg true)
structure VI (f : GFormula) (s : List Int × List Bool) : Prop where
  len : (s.2.length : Int) = f.Vars + f.Nodes.length
  nd : s.1.Nodup
  mem : ∀ v, v ∈ s.1 ↔ (0 ≤ v ∧ v < f.Vars) ∧ at' s.2 v = true
theorem nodup_few {l : List Int} {n : Int} (h : l.Nodup) (hm : ∀ v ∈ l, 0 ≤ v ∧ v < n) : (l.length : Int) ≤ max n 0 := by
  have h1 := nodup_le n.toNat (l.map Int.toNat) (by
    rw [List.Nodup, List.pairwise_map]
    exact List.Pairwise.imp_of_mem (fun {a b} ha hb hab he => hab (by have := hm a ha; have := hm b hb; omega)) h) (fun x hx => by
    obtain ⟨v, hv, rfl⟩ := List.mem_map.1 hx
    have := hm v hv
    omega)
  rw [List.length_map] at h1
  omega
theorem VI.few (g : FG f) {s : List Int × List Bool} (h : VI f s) : s.1.length ≤ 24 := by
  have := nodup_few h.nd (n := f.Vars) (fun v hv => ((h.mem v).1 hv).1)
  have := g.v24
  have := g.v0
  omega
theorem visit_s (g : FG f) : ∀ (fu : Nat) (arg : Int) (s : List Int × List Bool) (Q : List Int → List Bool → Prop), 0 ≤ arg → arg < f.Vars + f.Nodes.length → arg < fu → VI f s → (VI f (visF f fu arg s) → Q (visF f fu arg s).1 (visF f fu arg s).2) →
    order_walk__visit__e2_W fu arg f.Vars f.Nodes f.Top s.1 s.2 Q
  | 0, _, _, _, h0, _, h2, _, _ => by omega
  | fu + 1, arg, s, Q, h0, h1, h2, hv, hQ => by
    have hlen := hv.len
    have hfew := hv.few g
    have hv0 := g.v0
    have hv24 := g.v24
    rw [order_walk__visit__e2_W]
    refine ⟨⟨h0, by omega⟩, condB (fun hs => ?_) (fun hs => ⟨⟨h0, by omega⟩, condT (fun hc => ?_) (fun hc => ?_)⟩)⟩
    · rw [visF, if_pos hs] at hQ
      exact hQ hv
    · have hs' : ¬ at' s.2 arg = true := by rw [hs]; simp
      rw [visF, if_neg hs', if_pos hc] at hQ
      refine ⟨by rw [List.length_append, List.length_singleton]; omega, hQ ⟨by rw [set_len]; exact hlen, ?_, fun v => ?_⟩⟩
      · refine List.nodup_append.2 ⟨hv.nd, by simp, fun a ha b hb he => ?_⟩
        rw [List.mem_singleton] at hb
        subst hb
        subst he
        exact hs' ((hv.mem a).1 ha).2
      · rw [List.mem_append, List.mem_singleton, hv.mem v]
        constructor
        · rintro (⟨h5, h6⟩ | rfl)
          · refine ⟨h5, ?_⟩
            rw [at_set' ⟨h0, by omega⟩ h5.1]
            split
            · rfl
            · exact h6
          · exact ⟨⟨h0, hc⟩, by rw [at_set' ⟨h0, by omega⟩ h0, if_pos rfl]⟩
        · rintro ⟨h5, h6⟩
          rw [at_set' ⟨h0, by omega⟩ h5.1] at h6
          split at h6
          · rename_i he; exact .inr he
          · exact .inl ⟨h5, h6⟩
    · have hs' : ¬ at' s.2 arg = true := by rw [hs]; simp
      rw [visF, if_neg hs', if_neg hc] at hQ
      obtain ⟨i, hi⟩ : ∃ i : Nat, arg - f.Vars = i := ⟨(arg - f.Vars).toNat, by omega⟩
      have hil : i < f.Nodes.length := by omega
      rw [hi] at hQ ⊢
      have hargs := argsIn g hil
      have h16 := (nodeE_ok (g.node i hil))
      refine ⟨by unfold rng; have := g.n128; omega, ⟨by omega, by omega⟩, ?_⟩
      generalize hA : (at' f.Nodes (i : Int)).Args = A at hQ hargs ⊢
      have hA16 : A.length ≤ 16 := by rw [← hA]; exact h16.len
      have hv1 : VI f (s.1, set' s.2 arg true) := by
        refine ⟨by rw [set_len]; exact hlen, hv.nd, fun v => ?_⟩
        rw [hv.mem v]
        constructor
        · rintro ⟨h5, h6⟩
          refine ⟨h5, ?_⟩
          rw [at_set' ⟨h0, by omega⟩ h5.1]
          split
          · rfl
          · exact h6
        · rintro ⟨h5, h6⟩
          rw [at_set' ⟨h0, by omega⟩ h5.1, if_neg (by omega)] at h6
          exact ⟨h5, h6⟩
      refine loopInv (n := A.length) (fun j y => y = ((j : Int), ((A.take j).foldl (fun s x => visF f fu x s) (s.1, set' s.2 arg true)).1, ((A.take j).foldl (fun s x => visF f fu x s) (s.1, set' s.2 arg true)).2) ∧ VI f ((A.take j).foldl (fun s x => visF f fu x s) (s.1, set' s.2 arg true)))
        (fun y => y.1) 0 (fun j y hy => by rw [hy.1]; omega) ⟨rfl, hv1⟩ ?_ ?_
      · rintro j _ next hj ⟨rfl, hI⟩ hn
        have ha := hargs _ (at_in hj)
        have e : (A.take (j + 1)).foldl (fun s x => visF f fu x s) (s.1, set' s.2 arg true) = visF f fu (at' A (j : Int)) ((A.take j).foldl (fun s x => visF f fu x s) (s.1, set' s.2 arg true)) := by
          rw [take_snoc hj, List.foldl_append]
          rfl
        refine condT (fun _ => ⟨⟨by omega, by omega⟩, visit_s g fu _ _ _ ha.1 (by omega) (by omega) hI (fun hV => ⟨?_, by unfold rng; omega, hn _ ⟨?_, by rw [e]; exact hV⟩⟩)⟩) (fun hc => absurd (show (j : Int) < A.length by omega) hc)
        · have h3 := hV.len
          have h4 := hI.len
          omega
        · rw [e]
          rfl
      · rintro _ next ⟨rfl, hI⟩
        refine condT (fun hc => by first | omega | (dsimp only at hc; omega)) (fun _ => ?_)
        have e : A.take A.length = A := List.take_of_length_le (Nat.le_refl _)
        rw [e] at hI ⊢
        exact hQ hI
/-- What the walk from the top meets. -/
def topV (f : GFormula) : List Int × List Bool := visF f (f.Vars + (f.Nodes.length : Int)).toNat f.Top ([], rep' (f.Vars + (f.Nodes.length : Int)) false)
def depthO (f : GFormula) : List Int := (topV f).1 ++ (nats f.Vars.toNat).filter fun v => !(at' (topV f).2 v)
theorem rep_false {n v : Int} : at' (rep' n false) v = false := by
  unfold at' rep'
  rw [List.getD_eq_getElem?_getD, List.getElem?_replicate]
  split <;> rfl
theorem VI0 (g : FG f) : VI f ([], rep' (f.Vars + (f.Nodes.length : Int)) false) :=
  ⟨by have := g.v0; rw [rep_len (by omega)], List.nodup_nil, fun v => by rw [rep_false]; simp⟩
theorem depth_s (g : FG f) {Q : List Int → List Bool → Prop} (hQ : VI f (topV f) → Q (depthO f) (topV f).2) : order_depth_W f Q := by
  have hv0 := g.v0
  have hv24 := g.v24
  have hn := g.n128
  have ht0 := g.top0
  have ht := g.top
  refine ⟨by unfold rng; omega, ⟨by omega, by omega, by omega, by omega⟩, (f.Vars + (f.Nodes.length : Int)).toNat, visit_s g _ f.Top ([], rep' (f.Vars + (f.Nodes.length : Int)) false) _ ht0 ht (by omega) (VI0 g) (fun hV => ?_)⟩
  have hlen := hV.len
  have hfew := hV.few g
  refine ⟨by have := (VI0 g).len; dsimp only at this; omega, ?_⟩
  obtain ⟨n, hvn⟩ : ∃ n : Nat, f.Vars = n := ⟨f.Vars.toNat, by omega⟩
  refine loopUp (n := n) (fun i => ((i : Int), (topV f).1 ++ (nats i).filter fun v => !(at' (topV f).2 v))) (fun y => y.1) 0 (fun i => by first | omega | (dsimp only; omega)) (by simp [nats]; rfl) ?_ ?_
  · intro i next hi hn1
    have hf := List.length_filter_le (fun v => !(at' (topV f).2 v)) (nats i)
    rw [nats_len] at hf
    have hl2 : (topV f).1.length ≤ 24 := hfew
    have hl3 : ((topV f).2.length : Int) = f.Vars + f.Nodes.length := hlen
    rw [nats_succ, List.filter_append] at hn1
    refine condT (fun _ => ⟨⟨by omega, by show (i : Int) < ((topV f).2.length : Int); omega⟩, condB (fun hb => ?_) (fun hb => ?_)⟩) (fun hc => absurd (by omega) hc)
    · have hb' : (!at' (topV f).2 (i : Int)) = true := hb
      rw [List.filter_cons_of_pos (by exact hb'), List.filter_nil, ← List.append_assoc] at hn1
      refine ⟨by simp only [List.length_append, List.length_singleton]; omega, by unfold rng; omega, ?_⟩
      simpa using hn1
    · have hb' : ¬ (!at' (topV f).2 (i : Int)) = true := by
        intro hc
        have hc2 : (!at' (topV f).2 (i : Int)) = false := hb
        rw [hc2] at hc
        cases hc
      rw [List.filter_cons_of_neg (by exact hb'), List.filter_nil, List.append_nil] at hn1
      exact ⟨by unfold rng; omega, by simpa using hn1⟩
  · intro next
    refine condT (fun hc => by first | omega | (dsimp only at hc; omega)) (fun _ => ?_)
    have := hQ hV
    unfold depthO at this
    rw [hvn, Int.toNat_natCast] at this
    exact this
theorem Depth_s (ht : rng f.Top) {Q : List Int → Option Int → Prop} (h0 : chkM f ≠ 0 → Q [] (some (chkM f))) (h1 : FG f → VI f (topV f) → Q (depthO f) none) : order_Depth_W f Q := by
  refine formula_Check_s ht (err_W (fun hc => by rw [errO_ne' hc]; exact h0 hc) (fun hz => ?_))
  have g := chk_ok.1 hz
  exact depth_s g (h1 g)
end
end Go.Gg
/- Chapter 14: the example. Conditions: none. -/
namespace Go.Gg
def ex14 : GFormula := ⟨3, [⟨3, 0, [0, 2, 1]⟩, ⟨2, 0, [2, 3]⟩], 4⟩
theorem ex14_chk : chkM ex14 = 0 := by decide +kernel
theorem ex14_depth : depthO ex14 = [2, 0, 1] := by decide +kernel
theorem ex14_dist : disM [0, 1, 2] [2, 1, 0] = 3 := by decide +kernel
theorem ex14_disE : disE [0, 1, 2] [2, 1, 0] = 0 := by decide +kernel
/-- A list of weights with its values. -/
def WV (l : List GRat) (q : List Rat) : Prop := l.length = q.length ∧ ∀ i : Nat, i < l.length → ∃ k, k ≤ 100000 ∧ Rp k (at' l (i : Int)) (q.getD i 0)
theorem WV.set {l : List GRat} {q : List Rat} {i k : Nat} {x : GRat} {p : Rat} (h : WV l q) (hk : k ≤ 100000) (hx : Rp k x p) : WV (set' l (i : Int) x) (q.set i p) := by
  refine ⟨by rw [set_len, List.length_set]; exact h.1, fun j hj => ?_⟩
  rw [set_len] at hj
  by_cases hi : i < l.length
  · rw [at_set hi]
    split
    · rename_i e
      subst e
      refine ⟨k, hk, ?_⟩
      have : j < q.length := by have := h.1; omega
      simpa [List.getD_eq_getElem?_getD, this] using hx
    · rename_i e
      obtain ⟨k', h1, h2⟩ := h.2 j hj
      refine ⟨k', h1, ?_⟩
      rw [List.getD_eq_getElem?_getD, List.getElem?_set_ne (fun hc => e hc.symm), ← List.getD_eq_getElem?_getD]
      exact h2
  · have : set' l (i : Int) x = l := by unfold set'; rw [Int.toNat_natCast]; exact List.set_eq_of_length_le (by omega)
    rw [this, List.set_eq_of_length_le (by have := h.1; omega)]
    exact h.2 j hj
end Go.Gg
/- Chapter 14: the weights. Conditions: none. -/
namespace Go.Gg
def addL (q : List Rat) (A : List Int) (p : Rat) : List Rat := A.foldl (fun q a => q.set a.toNat (q.getD a.toNat 0 + p)) q
def sumR (q : List Rat) : Nat → Rat
  | 0 => 0
  | n + 1 => sumR q n + q.getD n 0
theorem getD_set {q : List Rat} {i v : Nat} {x : Rat} (h : i < q.length) : (q.set i x).getD v 0 = if v = i then x else q.getD v 0 := by
  simp only [List.getD_eq_getElem?_getD, List.getElem?_set]
  by_cases hv : v = i
  · subst hv
    simp [h]
  · rw [if_neg (fun hc => hv hc.symm), if_neg hv]
theorem addL_len {p : Rat} : ∀ (A : List Int) (q : List Rat), (addL q A p).length = q.length
  | [], _ => rfl
  | a :: A, q => by
    have := addL_len (p := p) A (q.set a.toNat (q.getD a.toNat 0 + p))
    rw [List.length_set] at this
    exact this
theorem addL_snoc {q : List Rat} {A : List Int} {a : Int} {p : Rat} : addL q (A ++ [a]) p = (addL q A p).set a.toNat ((addL q A p).getD a.toNat 0 + p) := by simp [addL]
theorem sum_set {q : List Rat} {i : Nat} {p : Rat} (h : i < q.length) : ∀ n, sumR (q.set i (q.getD i 0 + p)) n = sumR q n + if i < n then p else 0
  | 0 => by simp [sumR]; grind
  | n + 1 => by
    rw [sumR, sumR, sum_set h n, getD_set h]
    by_cases h1 : i < n
    · rw [if_pos h1, if_neg (by omega : ¬ n = i), if_pos (by omega)]; grind
    · by_cases h2 : n = i
      · subst h2
        rw [if_neg h1, if_pos rfl, if_pos (by omega)]; grind
      · rw [if_neg h1, if_neg h2, if_neg (by omega)]
        grind
theorem sum_addL {p : Rat} {n : Nat} : ∀ (A : List Int) (q : List Rat), (∀ a ∈ A, 0 ≤ a ∧ a < n) → n ≤ q.length → sumR (addL q A p) n = sumR q n + (A.length : Rat) * p
  | [], q, _, _ => by simp [addL]; grind
  | a :: A, q, h, hn => by
    have ha := h a List.mem_cons_self
    have e : addL q (a :: A) p = addL (q.set a.toNat (q.getD a.toNat 0 + p)) A p := rfl
    rw [e, sum_addL A _ (fun b hb => h b (List.mem_cons_of_mem _ hb)) (by rw [List.length_set]; exact hn), sum_set (by omega), if_pos (by omega), List.length_cons]
    have : ((A.length + 1 : Nat) : Rat) = (A.length : Rat) + 1 := by simp
    rw [this]
    grind
theorem addL_other {p : Rat} {v : Nat} : ∀ (A : List Int) (q : List Rat), (∀ a ∈ A, a.toNat ≠ v) → (∀ a ∈ A, a.toNat < q.length) → (addL q A p).getD v 0 = q.getD v 0
  | [], _, _, _ => rfl
  | a :: A, q, h, hl => by
    have e : addL q (a :: A) p = addL (q.set a.toNat (q.getD a.toNat 0 + p)) A p := rfl
    rw [e, addL_other A _ (fun b hb => h b (List.mem_cons_of_mem _ hb)) (fun b hb => by rw [List.length_set]; exact hl b (List.mem_cons_of_mem _ hb)), getD_set (hl a List.mem_cons_self), if_neg (fun hc => h a List.mem_cons_self hc.symm)]
theorem sum_mem {q : List Rat} (h : ∀ v, 0 ≤ q.getD v 0) : ∀ n v, v < n → q.getD v 0 ≤ sumR q n
  | 0, v, hv => by omega
  | n + 1, v, hv => by
    rw [sumR]
    have hn := h n
    have hs : ∀ m, 0 ≤ sumR q m := fun m => by
      induction m with
      | zero => exact Rat.le_refl
      | succ m ih => rw [sumR]; have := h m; grind
    by_cases e : v = n
    · subst e; have := hs v; grind
    · have := sum_mem h n v (by omega); grind
/-- What is known of a list of weights: no weight below 0 or above 1, the first m weigh 1 at most, D times each is a whole number. -/
structure WQ (m D : Nat) (q : List Rat) : Prop where
  nn : ∀ v, 0 ≤ q.getD v 0
  le : ∀ v, q.getD v 0 ≤ 1
  sum : sumR q m ≤ 1
  int : ∀ v, ∃ z : Int, q.getD v 0 * (D : Rat) = z
theorem RB_frac {x : Rat} {D e : Nat} {z : Int} (h0 : 0 ≤ x) (h1 : x ≤ 1) (hz : x * (D : Rat) = z) (hD : 0 < D) (he : D < 2 ^ e) : RB e x := by
  have hDr : (0 : Rat) < (D : Rat) := by exact_mod_cast hD
  have hx : x = mkRat z D := by
    rw [Rat.mkRat_eq_div]
    show x = (z : Rat) / (D : Rat)
    rw [← hz]
    grind
  have z0 : 0 ≤ z := by
    have : (0 : Rat) ≤ (z : Rat) := by rw [← hz]; exact Rat.mul_nonneg h0 (Rat.le_of_lt hDr)
    exact_mod_cast this
  have z1 : z ≤ (D : Int) := by
    have : (z : Rat) ≤ ((D : Int) : Rat) := by
      rw [← hz]
      have := Rat.mul_le_mul_of_nonneg_right h1 (Rat.le_of_lt hDr)
      rw [Rat.one_mul] at this
      exact this
    exact_mod_cast this
  rw [hx]
  exact RB_mkRat (by omega) (by omega) he
theorem addL_nn {p : Rat} (hp : 0 ≤ p) : ∀ (A : List Int) (q : List Rat), (∀ a ∈ A, a.toNat < q.length) → (∀ v, 0 ≤ q.getD v 0) → ∀ v, 0 ≤ (addL q A p).getD v 0
  | [], _, _, h, v => h v
  | a :: A, q, hl, h, v => by
    have e : addL q (a :: A) p = addL (q.set a.toNat (q.getD a.toNat 0 + p)) A p := rfl
    rw [e]
    refine addL_nn hp A _ (fun b hb => by rw [List.length_set]; exact hl b (List.mem_cons_of_mem _ hb)) (fun u => ?_) v
    rw [getD_set (hl a List.mem_cons_self)]
    split
    · have := h a.toNat; grind
    · exact h u
theorem addL_int {p : Rat} {D : Nat} (hp : ∃ z : Int, p * (D : Rat) = z) : ∀ (A : List Int) (q : List Rat), (∀ a ∈ A, a.toNat < q.length) → (∀ v, ∃ z : Int, q.getD v 0 * (D : Rat) = z) → ∀ v, ∃ z : Int, (addL q A p).getD v 0 * (D : Rat) = z
  | [], _, _, h, v => h v
  | a :: A, q, hl, h, v => by
    have e : addL q (a :: A) p = addL (q.set a.toNat (q.getD a.toNat 0 + p)) A p := rfl
    rw [e]
    refine addL_int hp A _ (fun b hb => by rw [List.length_set]; exact hl b (List.mem_cons_of_mem _ hb)) (fun u => ?_) v
    rw [getD_set (hl a List.mem_cons_self)]
    split
    · obtain ⟨z1, h1⟩ := h a.toNat
      obtain ⟨z2, h2⟩ := hp
      exact ⟨z1 + z2, by rw [Rat.add_mul, h1, h2]; simp⟩
    · exact h u
theorem WQ.less {m D : Nat} {q : List Rat} (h : WQ (m + 1) D q) : WQ m D q := ⟨h.nn, h.le, by
  have h1 := h.sum
  rw [sumR] at h1
  have := h.nn m
  grind, h.int⟩
section
variable {m D : Nat} {q : List Rat} {A : List Int}
theorem WQ.part (h : WQ (m + 1) D q) (hq : m + 1 ≤ q.length) (hA : ∀ a ∈ A, 0 ≤ a ∧ a < m) (hn : 0 < A.length) {j : Nat} (hj : j ≤ A.length) : WQ m (D * A.length) (addL q (A.take j) (q.getD m 0 / (A.length : Rat))) := by
  have hAj : ∀ a ∈ A.take j, 0 ≤ a ∧ a < m := fun a ha => hA a (List.mem_of_mem_take ha)
  have hAl : ∀ a ∈ A.take j, a.toNat < q.length := fun a ha => by have := hAj a ha; omega
  have hnr : (0 : Rat) < (A.length : Rat) := by exact_mod_cast hn
  have hw := h.nn m
  have hp : 0 ≤ q.getD m 0 / (A.length : Rat) := by
    rw [Rat.div_def]
    exact Rat.mul_nonneg hw (Rat.le_of_lt (Rat.inv_pos.2 hnr))
  have hpl : (A.length : Rat) * (q.getD m 0 / (A.length : Rat)) = q.getD m 0 := by grind
  have hnn := addL_nn hp (A.take j) q hAl h.nn
  have hsum : sumR (addL q (A.take j) (q.getD m 0 / (A.length : Rat))) m ≤ 1 := by
    rw [sum_addL _ _ hAj (by omega)]
    have h1 := h.sum
    rw [sumR] at h1
    have hjl : ((A.take j).length : Rat) ≤ (A.length : Rat) := by
      have : (A.take j).length ≤ A.length := by rw [List.length_take]; omega
      exact_mod_cast this
    have h2 := Rat.mul_le_mul_of_nonneg_right hjl hp
    grind
  refine ⟨hnn, fun v => ?_, hsum, addL_int ?_ _ _ hAl (fun v => ?_)⟩
  · rcases Nat.lt_or_ge v m with hv | hv
    · have := sum_mem hnn m v hv
      grind
    · rw [addL_other _ _ (fun a ha => by have := hAj a ha; omega) hAl]
      exact h.le v
  · obtain ⟨z, hz⟩ := h.int m
    refine ⟨z, ?_⟩
    rw [← hz]
    have e : ((D * A.length : Nat) : Rat) = (D : Rat) * (A.length : Rat) := by simp
    rw [e]
    grind
  · obtain ⟨z, hz⟩ := h.int v
    refine ⟨z * (A.length : Int), ?_⟩
    have e : ((D * A.length : Nat) : Rat) = (D : Rat) * (A.length : Rat) := by simp
    have e2 : ((z * (A.length : Int) : Int) : Rat) = (z : Rat) * (A.length : Rat) := by rw [Rat.intCast_mul]; rfl
    rw [e, e2, ← hz]
    grind
end
/-- Weights in the machine. -/
def WL (l : List GRat) (q : List Rat) : Prop := l.length = q.length ∧ ∀ i : Nat, i < l.length → Fr (at' l (i : Int)) ∧ valR (at' l (i : Int)) = q.getD i 0
theorem WL.set' {l : List GRat} {q : List Rat} {i : Nat} {x : GRat} {p : Rat} (h : WL l q) (hi : i < l.length) (hf : Fr x) (hv : valR x = p) : WL (set' l (i : Int) x) (q.set i p) := by
  refine ⟨by rw [set_len, List.length_set]; exact h.1, fun j hj => ?_⟩
  rw [set_len] at hj
  rw [at_set hi, getD_set (by have := h.1; omega)]
  split
  · exact ⟨hf, hv⟩
  · exact h.2 j hj
theorem WL.rp {l : List GRat} {q : List Rat} {m D i e : Nat} (h : WL l q) (hq : WQ m D q) (hD : 0 < D) (hD2 : D < 2 ^ e) (hi : i < l.length) : Rp e (at' l (i : Int)) (q.getD i 0) := by
  have h1 := h.2 i hi
  obtain ⟨z, hz⟩ := hq.int i
  exact ⟨h1.1, h1.2, RB_frac (hq.nn i) (hq.le i) hz hD hD2⟩
section
variable {f : GFormula}
def argsF (f : GFormula) (i : Nat) : List Int := (at' f.Nodes (i : Int)).Args
def wtStep (f : GFormula) (i : Nat) (q : List Rat) : List Rat := if q.getD (f.Vars.toNat + i) 0 = 0 ∨ (argsF f i).length = 0 then q else addL q (argsF f i) (q.getD (f.Vars.toNat + i) 0 / ((argsF f i).length : Rat))
/-- The weights behind k rounds. -/
def wtL (f : GFormula) : Nat → List Rat
  | 0 => (List.replicate (f.Vars.toNat + f.Nodes.length) 0).set f.Top.toNat 1
  | k + 1 => wtStep f (f.Nodes.length - 1 - k) (wtL f k)
theorem wtL_len : ∀ k, (wtL f k).length = f.Vars.toNat + f.Nodes.length
  | 0 => by simp [wtL]
  | k + 1 => by
    rw [wtL, wtStep]
    split
    · exact wtL_len k
    · rw [addL_len]; exact wtL_len k
theorem rep_getD {n v : Nat} : (List.replicate n (0 : Rat)).getD v 0 = 0 := by
  rw [List.getD_eq_getElem?_getD, List.getElem?_replicate]
  split <;> rfl
theorem sum_zero {n : Nat} : ∀ m, sumR (List.replicate n (0 : Rat)) m = 0
  | 0 => rfl
  | m + 1 => by rw [sumR, sum_zero m, rep_getD]; grind
theorem wt0 (g : FG f) : WQ (f.Vars.toNat + f.Nodes.length) 1 (wtL f 0) := by
  have hv0 := g.v0; have ht0 := g.top0; have ht := g.top
  have hl : f.Top.toNat < (List.replicate (f.Vars.toNat + f.Nodes.length) (0 : Rat)).length := by rw [List.length_replicate]; omega
  have e : (1 : Rat) = (List.replicate (f.Vars.toNat + f.Nodes.length) (0 : Rat)).getD f.Top.toNat 0 + 1 := by rw [rep_getD]; grind
  have hval : ∀ v, (wtL f 0).getD v 0 = 0 ∨ (wtL f 0).getD v 0 = 1 := fun v => by
    rw [wtL, getD_set hl]
    split
    · exact .inr rfl
    · exact .inl rep_getD
  refine ⟨fun v => by rcases hval v with h | h <;> rw [h] <;> decide, fun v => by rcases hval v with h | h <;> rw [h] <;> decide, ?_, fun v => ?_⟩
  · rw [wtL, e, sum_set hl, sum_zero]
    split <;> grind
  · rcases hval v with h | h
    · exact ⟨0, by rw [h]; simp⟩
    · exact ⟨1, by rw [h]; simp⟩
/-- What is known of the weights behind k rounds. -/
theorem wt_ok (g : FG f) : ∀ k, k ≤ f.Nodes.length → ∃ D, 0 < D ∧ D < 2 ^ (4 * k + 1) ∧ WQ (f.Vars.toNat + (f.Nodes.length - k)) D (wtL f k)
  | 0, _ => ⟨1, by omega, by simp, wt0 g⟩
  | k + 1, hk => by
    obtain ⟨D, h1, h2, h3⟩ := wt_ok g k (by omega)
    have hv0 := g.v0
    obtain ⟨i, hi⟩ : ∃ i, i = f.Nodes.length - 1 - k := ⟨_, rfl⟩
    have hil : i < f.Nodes.length := by omega
    have e : f.Vars.toNat + (f.Nodes.length - k) = f.Vars.toNat + i + 1 := by omega
    have e' : f.Vars.toNat + (f.Nodes.length - (k + 1)) = f.Vars.toNat + i := by omega
    rw [e] at h3
    rw [e']
    have hA := argsIn g hil
    have h16 := (nodeE_ok (g.node i hil)).len
    have hp : 2 ^ (4 * (k + 1) + 1) = 2 ^ (4 * k + 1) * 16 := by rw [show 4 * (k + 1) + 1 = (4 * k + 1) + 4 by omega, Nat.pow_add]
    have hpos : 0 < 2 ^ (4 * k + 1) := Nat.pow_pos (by omega)
    rw [wtL, ← hi, wtStep]
    split
    · exact ⟨D, h1, by omega, h3.less⟩
    · rename_i hc
      have hn : 0 < (argsF f i).length := by
        rcases Nat.eq_zero_or_pos (argsF f i).length with h | h
        · exact absurd (.inr h) hc
        · exact h
      have hlen := wtL_len (f := f) k
      have h4 := h3.part (A := argsF f i) (by omega) (fun a ha => by have := hA a ha; omega) hn (Nat.le_refl _)
      rw [List.take_of_length_le (Nat.le_refl _)] at h4
      refine ⟨D * (argsF f i).length, Nat.mul_pos h1 hn, ?_, h4⟩
      rw [hp]
      have h16' : (argsF f i).length ≤ 16 := h16
      exact Nat.lt_of_le_of_lt (Nat.mul_le_mul_left D h16') (Nat.mul_lt_mul_of_pos_right h2 (by omega))
/-- The arguments of one node take their shares. -/
theorem shares_s {l : List GRat} {q : List Rat} {A : List Int} {m D e : Nat} {p : Rat} {sh : GRat} {Q : List GRat → Prop} (hw : WL l q) (hA : ∀ a ∈ A, 0 ≤ a ∧ a < l.length) (h16 : A.length ≤ 16) (hsh : Rp (e + 64) sh p) (hD : 0 < D) (hD2 : D < 2 ^ e) (he : e ≤ 1000)
    (hq : ∀ j, j ≤ A.length → WQ m D (addL q (A.take j) p)) (hQ : ∀ l', WL l' (addL q A p) → Q l') :
    loopW (σ := Int × (List GRat)) (0, l) fun ⟨x2, x3⟩ next2 =>
                condW (decide (x2 < (A.length : Int)))
                  (((0 : Int) ≤ x2 ∧ x2 < (A.length : Int)) ∧
                  ((0 : Int) ≤ (at' A x2) ∧ (at' A x2) < (x3.length : Int)) ∧
                  detW (rational_Add_W (at' x3 (at' A x2)) sh) fun r5 =>
                  ((0 : Int) ≤ (at' A x2) ∧ (at' A x2) < (x3.length : Int)) ∧
                  rng (x2 + 1) ∧
                  next2 ((x2 + 1), (set' x3 (at' A x2) r5)))
                  (Q x3) := by
  refine loopInv (n := A.length) (fun j y => y.1 = (j : Int) ∧ WL y.2 (addL q (A.take j) p)) (fun y => y.1) 0 (fun j y hy => by rw [hy.1]; omega) ⟨rfl, hw⟩ ?_ ?_
  · rintro j ⟨x2, x3⟩ next hj ⟨hx, hW⟩ hn
    dsimp only at hx hW
    subst hx
    have hl : x3.length = l.length := by have := hW.1; rw [addL_len] at this; have := hw.1; omega
    have ha := hA _ (at_in hj)
    obtain ⟨a, hae⟩ : ∃ a : Nat, at' A (j : Int) = a := ⟨(at' A (j : Int)).toNat, by omega⟩
    have e1 : A.take (j + 1) = A.take j ++ [at' A (j : Int)] := take_snoc hj
    rw [hae] at ha
    refine condT (fun _ => ⟨⟨by omega, by omega⟩, by rw [hae]; omega, ?_⟩) (fun hc => absurd (show (j : Int) < A.length by omega) hc)
    rw [hae]
    refine add_pd (hW.rp (hq j (by omega)) hD hD2 (by omega)) hsh (by show e + (e + 64) + 1 ≤ 35184372088000; omega) (fun hr => ⟨by omega, by unfold rng; omega, hn _ ⟨by dsimp only; omega, ?_⟩⟩)
    dsimp only
    rw [e1, addL_snoc, hae, Int.toNat_natCast]
    exact hW.set' (by omega) hr.1 hr.2.1
  · rintro ⟨x2, x3⟩ next ⟨hx, hW⟩
    dsimp only at hx hW
    subst hx
    refine condT (fun hc => by omega) (fun _ => hQ _ ?_)
    rw [List.take_of_length_le (Nat.le_refl _)] at hW
    exact hW
def ltW (q : List Rat) (a b : Int) : Bool := decide (q.getD b.toNat 0 < q.getD a.toNat 0)
/-- The order by the weights. -/
def weightO (f : GFormula) : List Int := isort (ltW (wtL f f.Nodes.length)) (nats f.Vars.toNat)
theorem SortW_s {l : List Int} {u : List GRat} {q : List Rat} {m D e : Nat} {Q : List Int → Prop} (hw : WL u q) (hq : WQ m D q) (hD : 0 < D) (hD2 : D < 2 ^ e) (he : e ≤ 1000) (hl : l.length < 20) (hu : ∀ x ∈ l, 0 ≤ x ∧ x < u.length) (hQ : Q (isort (ltW q) l)) : slices_SortStableFunc___int_int__e2_W l u Q := by
  have e1 : isort (ltW q) l = isort (fun x y => decide (sgnR (q.getD y.toNat 0 - q.getD x.toNat 0) < 0)) l := isort_congr l (fun x _ y _ => by
    unfold ltW
    refine decide_eq_decide.2 ?_
    rw [sgnR_neg]
    constructor <;> intro h <;> grind)
  rw [e1] at hQ
  refine stabG_few (C := fun x y K => order_Weighted_1__e_W x y u K) (c := fun x y => sgnR (q.getD y.toNat 0 - q.getD x.toNat 0)) (Q := fun x1 => x1.length = l.length ∧ Q x1) (fun x hx y hy K hK => ?_) hl ⟨isort_len, hQ⟩
  have h1 := hu x hx
  have h2 := hu y hy
  obtain ⟨a, rfl⟩ : ∃ a : Nat, x = a := ⟨x.toNat, by omega⟩
  obtain ⟨b, rfl⟩ : ∃ b : Nat, y = b := ⟨y.toNat, by omega⟩
  exact ⟨h2, h1, cmp_pd (hw.rp hq hD hD2 (by omega)) (hw.rp hq hD hD2 (by omega)) (by show e + e + 1 ≤ 35184372088000; omega) hK⟩
theorem Weighted_s (ht : rng f.Top) {Q : List Int → Option Int → Prop} (h0 : chkM f ≠ 0 → Q [] (some (chkM f))) (hf : FG f → f.Vars < 20) (h1 : FG f → Q (weightO f) none) : order_Weighted_W f Q := by
  refine formula_Check_s ht (err_W (fun hc => by rw [errO_ne' hc]; exact h0 hc) (fun hz => ?_))
  have g := chk_ok.1 hz
  have hv0 := g.v0; have hv24 := g.v24; have hn := g.n128; have ht0 := g.top0; have htl := g.top
  have h20 := hf g
  have hQ := h1 g
  obtain ⟨n, hvn⟩ : ∃ n : Nat, f.Vars = n := ⟨f.Vars.toNat, by omega⟩
  obtain ⟨e, he⟩ : ∃ e, e = 4 * f.Nodes.length + 1 := ⟨_, rfl⟩
  have hpw : ∀ k D, k ≤ f.Nodes.length → D < 2 ^ (4 * k + 1) → D < 2 ^ e := fun k D hk hD => Nat.lt_of_lt_of_le hD (Nat.pow_le_pow_right (by omega) (by omega))
  refine ⟨by unfold rng; omega, ⟨by omega, by omega, by omega, by omega⟩, of_pd (by unfold rng; omega) (fun hr => ⟨by omega, ?_⟩)⟩
  obtain ⟨top, htop⟩ : ∃ t : Nat, f.Top = t := ⟨f.Top.toNat, by omega⟩
  refine ⟨by unfold rng; omega, fun k y => WL y (wtL f k), ?_, fun k hk j x hj hx y hy => ?_, fun y hy => ?_⟩
  · rw [htop]
    have hz : WL (rep' (f.Vars + (f.Nodes.length : Int)) (⟨false, [], []⟩ : GRat)) (List.replicate (f.Vars.toNat + f.Nodes.length) 0) := by
      refine ⟨by simp [rep']; omega, fun i hi => ?_⟩
      have hlen : (rep' (f.Vars + (f.Nodes.length : Int)) (⟨false, [], []⟩ : GRat)).length = f.Vars.toNat + f.Nodes.length := by simp [rep']; omega
      rw [rep_getD, show at' (rep' (f.Vars + (f.Nodes.length : Int)) (⟨false, [], []⟩ : GRat)) (i : Int) = ⟨false, [], []⟩ by rw [at_el hi]; simp [rep']]
      have := Rp.zero (k := 1) (by omega) (by decide)
      exact ⟨this.1, this.2.1⟩
    have hl : (rep' (f.Vars + (f.Nodes.length : Int)) (⟨false, [], []⟩ : GRat)).length = f.Vars.toNat + f.Nodes.length := by simp [rep']; omega
    have := hz.set' (i := top) (x := ratOf ((1 : Int) : Rat)) (p := 1) (by omega) hr.1 (by rw [hr.2.1]; rfl)
    show WL _ (wtL f 0)
    rw [wtL, htop, Int.toNat_natCast]
    exact this
  · obtain ⟨i, hi⟩ : ∃ i, i = f.Nodes.length - 1 - k := ⟨_, rfl⟩
    have hil : i < f.Nodes.length := by omega
    have hji : j = (i : Int) := by omega
    subst hji
    have hyl : y.length = f.Vars.toNat + f.Nodes.length := by rw [hy.1, wtL_len]
    have eidx : f.Vars + (i : Int) = ((f.Vars.toNat + i : Nat) : Int) := by omega
    obtain ⟨D, d1, d2, d3⟩ := wt_ok g k (by omega)
    have d2' := hpw k D (by omega) d2
    have hA := argsIn g hil
    have h16 : (argsF f i).length ≤ 16 := (nodeE_ok (g.node i hil)).len
    have hxA : x.Args = argsF f i := by rw [hx]; rfl
    rw [eidx, hxA]
    have hrp := hy.rp d3 d1 d2' (i := f.Vars.toNat + i) (by omega)
    have hst : wtL f (k + 1) = wtStep f i (wtL f k) := by rw [wtL, ← hi]
    refine ⟨by unfold rng; omega, by omega, sign_p hrp (condE (fun hs => ?_) (fun hs => condE (fun ha => ?_) (fun ha => ?_)))⟩
    · have h0 := sgnR_eq.1 hs
      show WL y (wtL f (k + 1))
      rw [hst, wtStep, if_pos (.inl h0)]
      exact hy
    · show WL y (wtL f (k + 1))
      rw [hst, wtStep, if_pos (.inr (by omega))]
      exact hy
    · have hw0 : (wtL f k).getD (f.Vars.toNat + i) 0 ≠ 0 := fun hc => hs (sgnR_eq.2 hc)
      have hnn : 0 < (argsF f i).length := by omega
      have hstep : wtL f (k + 1) = addL (wtL f k) (argsF f i) ((wtL f k).getD (f.Vars.toNat + i) 0 / ((argsF f i).length : Rat)) := by
        rw [hst, wtStep, if_neg (by rintro (h | h); exact hw0 h; omega)]
      have hlr : ((((argsF f i).length : Nat) : Int) : Rat) ≠ 0 := by
        intro hc
        have : (((argsF f i).length : Nat) : Int) = 0 := by exact_mod_cast hc
        omega
      refine of_pd (by unfold rng; omega) (fun ho => div_pd hrp ho (by show e + 64 + 1 ≤ 35184372088000; omega) hlr (fun hd => condB (fun hb => by cases hb) (fun _ => ?_)))
      have em : f.Vars.toNat + (f.Nodes.length - k) = f.Vars.toNat + i + 1 := by omega
      rw [em] at d3
      obtain ⟨D', p1, p2, _⟩ := wt_ok g (k + 1) (by omega)
      have hD2 : D * (argsF f i).length < 2 ^ e := by
        have q1 : D * (argsF f i).length < 2 ^ (4 * (k + 1) + 1) := by
          rw [show 4 * (k + 1) + 1 = (4 * k + 1) + 4 by omega, Nat.pow_add]
          exact Nat.lt_of_le_of_lt (Nat.mul_le_mul_left D h16) (Nat.mul_lt_mul_of_pos_right d2 (by omega))
        exact hpw (k + 1) _ (by omega) q1
      refine shares_s (e := e) (D := D * (argsF f i).length) (m := f.Vars.toNat + i) hy (fun a ha => by have := hA a ha; omega) h16 hd (Nat.mul_pos d1 hnn) hD2 (by omega) (fun j hj => ?_) (fun l' hl' => ?_)
      · exact d3.part (by rw [wtL_len]; omega) (fun a ha => by have := hA a ha; omega) hnn hj
      · show WL l' (wtL f (k + 1))
        rw [hstep]
        exact hl'
  · obtain ⟨D, d1, d2, d3⟩ := wt_ok g f.Nodes.length (Nat.le_refl _)
    have hyl : y.length = f.Vars.toNat + f.Nodes.length := by rw [hy.1, wtL_len]
    rw [hvn]
    refine natural_s (by omega) ?_
    have hwO : weightO f = isort (ltW (wtL f f.Nodes.length)) (nats n) := by unfold weightO; rw [hvn, Int.toNat_natCast]
    refine SortW_s hy d3 d1 (hpw _ _ (Nat.le_refl _) d2) (by omega) (by rw [nats_len]; omega) (fun x hx => by have := mem_nats.1 hx; omega) ⟨isort_len, ?_⟩
    rw [← hwO]
    exact hQ
end
end Go.Gg
/- Chapter 14: the example, accepted orders. Conditions: none. -/
namespace Go.Gg
theorem ex14_weight : weightO ex14 = [2, 0, 1] := by decide +kernel
theorem law14_awake_s {Q : Bool → Prop} (h : Q true) : law14_awake_W Q := by
  unfold law14_awake_W law14_example_W
  show order_Depth_W ex14 _
  refine Depth_s (by unfold rng; decide) (fun hc => absurd ex14_chk hc) (fun _ _ => ?_)
  show order_Weighted_W ex14 _
  refine Weighted_s (by unfold rng; decide) (fun hc => absurd ex14_chk hc) (fun _ => by decide) (fun _ => ?_)
  refine Distance_s (fun hc => absurd ex14_disE hc) (fun _ => ?_)
  rw [ex14_depth, ex14_weight, ex14_dist]
  exact condB (fun _ => condB (fun _ => condB (fun _ => condE (fun _ => base_Ints_s (by decide) (condB (fun _ => base_Ints_s (by decide) h) (fun hc => by cases hc))) (fun hc => absurd rfl hc)) (fun hc => by cases hc)) (fun hc => by cases hc)) (fun hc => by cases hc)
def validO (o : List Int) : Bool := decide (ordE o o.length = 0)
theorem validO_iff {o : List Int} : validO o = true ↔ Or14 o := by
  unfold validO
  rw [decide_eq_true_eq]
  exact ⟨ordE_zero, ordE_of⟩
theorem law14_valid_s {o : List Int} {Q : Bool → Prop} (h : Q (validO o)) : law14_valid_W o Q := by
  refine condT (fun hc => ref14_Check_s ?_) (fun hc => ?_)
  · have : (ordE o o.length == 0) = validO o := by unfold validO; rw [Bool.eq_iff_iff]; simp
    rw [this]
    exact h
  · have : validO o = false := by
      cases hv : validO o with
      | false => rfl
      | true => have := (validO_iff.1 hv).le; omega
    rw [this] at h
    exact h
end Go.Gg
