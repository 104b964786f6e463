/- An own logic over the kit's weakest preconditions, part B: how a concrete world goes on fitting when one object is made or written; reading and writing an object's cells. Conditions: none. -/
import Derived.Test.YtonbnfgknijpoaaGgA
namespace Go.Gg
open Go.RowKit (Below)

theorem ObjAt.keep {G G' : Ghost} {w w' : World} {L : Loc} {o : GObj} (h : ObjAt G w L o) (hg : G.le G') (hw : 0 < L.cap → w'.heap[L.block]? = w.heap[L.block]?) : ObjAt G' w' L o := by
  cases o with
  | arr kk es =>
    obtain ⟨h1, h2, h3, h3', h4, h5⟩ := h
    refine ⟨h1, h2, h3, h3', h4, fun hc => ?_⟩
    obtain ⟨row, hr, hs, hel⟩ := h5 hc
    exact ⟨row, (hw hc).trans hr, hs, fun i hi j hj => let ⟨x, hx, hv⟩ := hel i hi j hj; ⟨x, hx, hv.mono hg⟩⟩
  | mp sh n m =>
    obtain ⟨h0, ents, clock, h1, h2, h3, h4, h5⟩ := h
    exact ⟨h0, ents, clock, (hw h0).trans h1, h2, fun e he => let ⟨ns, v, a, b, c⟩ := h3 e he; ⟨ns, v, a, b, c.mono hg⟩, h4, h5⟩

theorem ObjAt.lt {G : Ghost} {w : World} {L : Loc} {o : GObj} (h : ObjAt G w L o) (hc : 0 < L.cap) : L.block < w.heap.size := by
  cases o with
  | arr kk es =>
    obtain ⟨_, _, _, _, _, h5⟩ := h
    obtain ⟨row, hr, _⟩ := h5 hc
    exact (Array.getElem?_eq_some_iff.1 hr).1
  | mp sh n m =>
    obtain ⟨_, ents, clock, h1, _⟩ := h
    exact (Array.getElem?_eq_some_iff.1 h1).1

/-- The object that stands at a key, its place. -/
def Held (G : Ghost) (S : St) (r k b : Nat) : Prop := ∃ o g L, S r k = some (o, g) ∧ G.loc r k g = some L ∧ 0 < L.cap ∧ L.block = b

theorem Rel.put {G : Ghost} {S : St} {w w' : World} (h : Rel G S w) {row : Option Nat} (hg : w.grownBy w' row) (r k g : Nat) (obj : GObj) (L : Loc)
    (hrow : ∀ b, row = some b → Held G S r k b) (hL : 0 < L.cap → w.heap.size ≤ L.block ∨ Held G S r k L.block)
    (hloc : G.loc r k g = none ∨ G.loc r k g = some L) (hobj : ∀ G', G.le G' → ObjAt G' w' L obj) :
    ∃ G', G.le G' ∧ G'.loc r k g = some L ∧ G'.imm = G.imm ∧ Rel G' (S.set r k obj g) w' := by
  let G' : Ghost := { G with loc := fun r' k' g' => if r' = r ∧ k' = k ∧ g' = g then some L else G.loc r' k' g' }
  have hle : G.le G' := by
    refine ⟨rfl, fun _ _ _ e => e, fun r' k' g' L' e => ?_⟩
    show (if r' = r ∧ k' = k ∧ g' = g then some L else G.loc r' k' g') = some L'
    by_cases hc : r' = r ∧ k' = k ∧ g' = g
    · obtain ⟨rfl, rfl, rfl⟩ := hc
      rw [if_pos ⟨rfl, rfl, rfl⟩]
      rcases hloc with h0 | h0
      · rw [h0] at e; cases e
      · rw [h0] at e; exact e
    · rw [if_neg hc]; exact e
  have hat : G'.loc r k g = some L := by show (if r = r ∧ k = k ∧ g = g then some L else G.loc r k g) = some L; simp
  have hold : ∀ r' k' (_ : GObj) g', ¬ (r' = r ∧ k' = k) → G'.loc r' k' g' = G.loc r' k' g' := fun r' k' _ g' hne => by
    show (if r' = r ∧ k' = k ∧ g' = g then some L else G.loc r' k' g') = _
    rw [if_neg (fun hc => hne ⟨hc.1, hc.2.1⟩)]
  have heldlt : ∀ b, Held G S r k b → G.init.heap.size ≤ b ∧ b < w.heap.size ∧ ∀ x, G.imm b x = none := by
    rintro b ⟨o, g0, L0, e1, e2, e3, rfl⟩
    obtain ⟨L1, f1, f2, f3⟩ := h.obj _ _ _ _ e1
    rw [e2] at f1; cases f1
    exact ⟨(f3 e3).1, f2.lt e3, (f3 e3).2⟩
  refine ⟨G', hle, hat, rfl, ?_, ?_, ?_, ?_, ?_, ?_⟩
  · refine h.below.trans ⟨hg.os, hg.tape, hg.output, hg.size, fun b hb => hg.block b (Nat.lt_of_lt_of_le hb h.below.size) (fun e => ?_)⟩
    have := heldlt b (hrow b e.symm)
    have hb' : b < G.init.heap.size := hb
    omega
  · intro b o u e
    have hc := h.imm b o u e
    refine hg.cell hc (fun e' => ?_)
    have := (heldlt b (hrow b e'.symm)).2.2 o
    have e2 : G.imm b o = some u := e
    rw [this] at e2; cases e2
  · intro r' k' o' g' e
    simp only [St.set] at e
    split at e
    · rename_i hc
      obtain ⟨rfl, rfl⟩ := hc
      cases e
      refine ⟨L, hat, hobj G' hle, fun hc => ?_⟩
      rcases hL hc with h1 | h1
      · refine ⟨Nat.le_trans h.below.size h1, fun x => ?_⟩
        cases e : G.imm L.block x with
        | none => rfl
        | some u =>
          have := World.block_lt_of_cell? w _ (h.imm _ _ _ e)
          simp at this; omega
      · have := heldlt _ h1
        exact ⟨this.1, this.2.2⟩
    · rename_i hne
      obtain ⟨L', f1, f2, f3⟩ := h.obj _ _ _ _ e
      refine ⟨L', (hold r' k' o' g' hne).trans f1, f2.keep hle (fun hc => ?_), f3⟩
      refine hg.block _ (f2.lt hc) (fun e' => ?_)
      obtain ⟨o, g0, L0, e1, e2, e3, e4⟩ := hrow _ e'.symm
      exact h.inj _ _ _ _ _ _ _ _ _ _ e e1 f1 e2 hc e3 hne e4.symm
  · intro r1 k1 o1 g1 r2 k2 o2 g2 L1 L2 e1 e2 f1 f2 c1 c2 hne
    simp only [St.set] at e1 e2
    have key : ∀ r' k' o' g' L', S r' k' = some (o', g') → G.loc r' k' g' = some L' → 0 < L'.cap → ¬ (r' = r ∧ k' = k) → 0 < L.cap → L.block ≠ L'.block := by
      intro r' k' o' g' L' e f c hn hcap
      rcases hL hcap with h1 | h1
      · obtain ⟨L3, q1, q2, _⟩ := h.obj _ _ _ _ e
        rw [f] at q1; cases q1
        have := q2.lt c
        omega
      · obtain ⟨o, g0, L0, e3, e4, e5, e6⟩ := h1
        rw [← e6]
        exact h.inj _ _ _ _ _ _ _ _ _ _ e3 e e4 f e5 c (fun hc => hn ⟨hc.1.symm, hc.2.symm⟩)
    by_cases hc1 : r1 = r ∧ k1 = k
    · rw [if_pos hc1] at e1; cases e1
      obtain ⟨rfl, rfl⟩ := hc1
      rw [hat] at f1; cases f1
      rw [if_neg (fun hc => hne ⟨hc.1.symm, hc.2.symm⟩)] at e2
      rw [hold r2 k2 o2 g2 (fun hc => hne ⟨hc.1.symm, hc.2.symm⟩)] at f2
      exact key _ _ _ _ _ e2 f2 c2 (fun hc => hne ⟨hc.1.symm, hc.2.symm⟩) c1
    · rw [if_neg hc1] at e1
      rw [hold r1 k1 o1 g1 hc1] at f1
      by_cases hc2 : r2 = r ∧ k2 = k
      · rw [if_pos hc2] at e2; cases e2
        obtain ⟨rfl, rfl⟩ := hc2
        rw [hat] at f2; cases f2
        exact (key _ _ _ _ _ e1 f1 c1 hc1 c2).symm
      · rw [if_neg hc2] at e2
        rw [hold r2 k2 o2 g2 hc2] at f2
        exact h.inj _ _ _ _ _ _ _ _ _ _ e1 e2 f1 f2 c1 c2 hne
  · obtain ⟨N, hN⟩ := h.fin
    refine ⟨max N (r + 1), fun r' hr' k' => ?_⟩
    simp only [St.set]
    rw [if_neg (fun hc => by omega)]
    exact hN r' (by omega) k'
  · intro r' k'
    obtain ⟨N, hN⟩ := h.fing r' k'
    refine ⟨max N (g + 1), fun g' hg' => ?_⟩
    show (if r' = r ∧ k' = k ∧ g' = g then some L else G.loc r' k' g') = none
    rw [if_neg (fun hc => by omega)]
    exact hN g' (by omega)

theorem Rel.fresh {G : Ghost} {S : St} {w : World} (h : Rel G S w) (r k : Nat) : ∃ g, G.loc r k g = none := let ⟨N, hN⟩ := h.fing r k; ⟨N, hN N (Nat.le_refl _)⟩
theorem Rel.freshRegion {G : Ghost} {S : St} {w : World} (h : Rel G S w) : ∃ r, ∀ k, S r k = none := let ⟨N, hN⟩ := h.fin; ⟨N, hN N (Nat.le_refl _)⟩

/-- Draws change nothing. -/
theorem grownRefl (w : World) : w.grownBy w none := ⟨rfl, rfl, rfl, Nat.le_refl _, fun _ _ _ => rfl⟩
theorem grownBy_drew (w : World) (o : Obj) : w.grownBy (w.drew.alloc o) none := ⟨rfl, rfl, rfl, by simp, fun k hk _ => Below.heap_alloc w.drew o k hk⟩
theorem Rel.drawn {G : Ghost} {S : St} {w : World} (h : Rel G S w) (n : Nat) : Rel G S { w with drawn := n } :=
  ⟨⟨h.below.os, h.below.tape, h.below.output, h.below.size, h.below.block⟩, h.imm, fun r k o g e => let ⟨L, a, b, c⟩ := h.obj r k o g e; ⟨L, a, b.keep (Ghost.le.refl G) (fun _ => rfl), c⟩, h.inj, h.fin, h.fing⟩

/-! ### Cells of an element: flat positions -/
theorem flat_eq {k i j i' j' : Nat} (hj : j < k) (hj' : j' < k) (h : i * k + j = i' * k + j') : i = i' ∧ j = j' := by
  have h1 : (i * k + j) / k = i := by rw [Nat.mul_comm, Nat.mul_add_div (by omega), Nat.div_eq_of_lt hj]; rfl
  have h2 : (i' * k + j') / k = i' := by rw [Nat.mul_comm, Nat.mul_add_div (by omega), Nat.div_eq_of_lt hj']; rfl
  have : i = i' := by rw [← h1, h, h2]
  subst this
  exact ⟨rfl, by omega⟩
theorem flat_lt {k i j n : Nat} (hi : i < n) (hj : j < k) : i * k + j < n * k := by
  have : (i + 1) * k ≤ n * k := Nat.mul_le_mul_right _ hi
  rw [Nat.succ_mul] at this
  omega

/-- What is read at a place of an object. -/
theorem ObjAt.cell {G : Ghost} {w : World} {L : Loc} {kk : Nat} {es : List AV} (h : ObjAt G w L (.arr kk es)) {i j : Nat} (hi : i < es.length) (hj : j < kk) :
    ∃ x, w.cell? ⟨L.block, i * L.k + j, none⟩ = some x ∧ VR G (es[i].cells[j]'(by obtain ⟨_, _, _, _, h4, _⟩ := h; rw [h4 i hi]; exact hj)) x := by
  obtain ⟨h1, h2, h3, _, h4, h5⟩ := h
  obtain ⟨row, hr, hs, hel⟩ := h5 (by omega)
  obtain ⟨x, hx, hv⟩ := hel i hi j (by rw [h4 i hi]; exact hj)
  refine ⟨x, ?_, hv⟩
  rw [cell_of_row w _ _ row _ _ hr, h2]
  exact hx

end Go.Gg
