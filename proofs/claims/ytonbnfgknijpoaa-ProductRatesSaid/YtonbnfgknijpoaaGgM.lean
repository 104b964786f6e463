/- An own logic over the kit's weakest preconditions, part M: weakenings: a row that is written no more becomes a list; nil becomes an empty list, or an empty row. Conditions: none. -/
import Derived.Test.YtonbnfgknijpoaaGgL
namespace Go.Gg
open Go.RowKit (Below)

theorem del_sub (S : St) (r k : Nat) : (S.del r k).sub S := fun r' k' x h => by
  simp only [St.del] at h
  split at h
  · cases h
  · exact h

/-- The cells of one object will not be written any more. -/
theorem Rel.freeze {G : Ghost} {S : St} {w : World} (h : Rel G S w) {r k g kk : Nat} {es : List AV} (hS : S r k = some (.arr kk es, g)) :
    ∃ G', G.le G' ∧ Rel G' (S.del r k) w ∧ ∃ L, G.loc r k g = some L ∧ L.k = kk ∧ es.length ≤ L.cap ∧ L.cap ≤ maxLen ∧ (∀ i (h : i < es.length), es[i].cells.length = kk) ∧
      ∃ u : Nat → Nat → Value, (∀ i j, i < es.length → j < kk → G'.imm L.block (i * kk + j) = some (u i j)) ∧ (∀ i (h : i < es.length) j (h' : j < es[i].cells.length), VR G' es[i].cells[j] (u i j)) := by
  obtain ⟨L, hL, hobj, hown⟩ := h.obj _ _ _ _ hS
  have hobj' := hobj
  obtain ⟨hk0, hLk, hcap, hm, hcl, hrows⟩ := hobj
  let G' : Ghost := { G with imm := fun b o => if b = L.block ∧ 0 < L.cap then (w.cell? ⟨b, o, none⟩) else G.imm b o }
  have hle : G.le G' := by
    refine ⟨rfl, fun b o u e => ?_, fun _ _ _ _ e => e⟩
    show (if b = L.block ∧ 0 < L.cap then (w.cell? ⟨b, o, none⟩) else G.imm b o) = some u
    split
    · exact h.imm _ _ _ e
    · exact e
  have hcells : ∀ i (hi : i < es.length) j (_ : j < kk), ∃ u, w.cell? ⟨L.block, i * kk + j, none⟩ = some u ∧ ∀ hq : j < es[i].cells.length, VR G (es[i].cells[j]'hq) u := by
    intro i hi j hj
    obtain ⟨u, h1, h2⟩ := hobj'.cell hi hj
    rw [hLk] at h1
    exact ⟨u, h1, fun _ => h2⟩
  refine ⟨G', hle, ?_, L, hL, hLk, hcap, hm, hcl, fun i j => if h' : i < es.length ∧ j < kk then (hcells i h'.1 j h'.2).choose else undef, fun i j hi hj => ?_, fun i hi j hj => ?_⟩
  · have hs := h.sub (del_sub S r k)
    refine ⟨hs.below, fun b o u e => ?_, fun r' k' o g' e => ?_, hs.inj, hs.fin, hs.fing⟩
    · have e' : (if b = L.block ∧ 0 < L.cap then (w.cell? ⟨b, o, none⟩) else G.imm b o) = some u := e
      split at e'
      · exact e'
      · exact h.imm _ _ _ e'
    · have hne : ¬ (r' = r ∧ k' = k) := fun hc => by simp only [St.del] at e; rw [if_pos hc] at e; cases e
      have e0 := del_sub S r k _ _ _ e
      obtain ⟨L', q1, q2, q3⟩ := h.obj _ _ _ _ e0
      refine ⟨L', q1, q2.keep hle (fun _ => rfl), fun hc => ⟨(q3 hc).1, fun x => ?_⟩⟩
      show (if L'.block = L.block ∧ 0 < L.cap then (w.cell? ⟨L'.block, x, none⟩) else G.imm L'.block x) = none
      rw [if_neg (fun hb => h.inj _ _ _ _ _ _ _ _ _ _ e0 hS q1 hL hc hb.2 hne hb.1)]
      exact (q3 hc).2 x
  · show (if L.block = L.block ∧ 0 < L.cap then (w.cell? ⟨L.block, i * kk + j, none⟩) else G.imm L.block (i * kk + j)) = some (dite _ _ _)
    rw [if_pos ⟨rfl, by omega⟩, dif_pos ⟨hi, hj⟩]
    exact (hcells i hi j hj).choose_spec.1
  · have hjk : j < kk := by rw [← hcl i hi]; exact hj
    show VR G' _ (dite _ _ _)
    rw [dif_pos (⟨hi, hjk⟩ : i < es.length ∧ j < kk)]
    exact ((hcells i hi j hjk).choose_spec.2 hj).mono hle

/-- A one-cell value in which the row (r, k, g) is read as the list es. -/
def frz1 (r k g kk : Nat) (es : List AV) : AV → AV
  | .sl kk' r' k' g' off len => if r' = r ∧ k' = k ∧ g' = g ∧ kk' = kk ∧ off + len ≤ es.length then .list ((es.drop off).take len) else .sl kk' r' k' g' off len
  | v => v
def frz2 (r k g kk : Nat) (es : List AV) : AV → AV
  | .agg cs => .agg (cs.map (frz1 r k g kk es))
  | v => frz1 r k g kk es v
def frz (r k g kk : Nat) (es : List AV) : AV → AV
  | .tuple vs => .tuple (vs.map (frz2 r k g kk es))
  | v => frz2 r k g kk es v

section
variable {G G' : Ghost} {S : St} {w : World} {r k g kk : Nat} {es : List AV}
theorem frz1_sound {L : Loc} (hle : G.le G') (hL : G.loc r k g = some L) (hk : L.k = kk) (hcap : es.length ≤ L.cap) (hm : L.cap ≤ maxLen) (hcl : ∀ i (h : i < es.length), es[i].cells.length = kk)
    (u : Nat → Nat → Value) (h1 : ∀ i j, i < es.length → j < kk → G'.imm L.block (i * kk + j) = some (u i j)) (h2 : ∀ i (h : i < es.length) j (h' : j < es[i].cells.length), VR G' es[i].cells[j] (u i j))
    {v : AV} {x : Value} (hv : VR G v x) : VR G' (frz1 r k g kk es v) x := by
  cases v with
  | sl kk' r' k' g' off len =>
    simp only [frz1]
    split
    · rename_i hc
      obtain ⟨rfl, rfl, rfl, rfl, hlen⟩ := hc
      cases hv with
      | sl _ _ _ _ _ _ a L' hL' hk' hc' hm' ha =>
      obtain rfl : L' = L := by rw [hL] at hL'; exact (Option.some.inj hL').symm
      have hl : ((es.drop off).take len).length = len := by simp; omega
      refine .list _ a len (L'.cap - off) L'.block (off * kk') kk' (fun i j => u (off + i) j) hl.symm (by omega) (by omega) (fun hp => ?_) (fun i hi => ?_) (fun i j hi hj => ?_) (fun i hi j hj => ?_)
      · rw [ha (by omega), hk]
      · simp only [List.getElem_take, List.getElem_drop]; exact hcl _ _
      · have := h1 (off + i) j (by omega) hj
        rw [Nat.add_mul, Nat.add_assoc] at this
        exact this
      · simp only [List.getElem_take, List.getElem_drop] at hj ⊢
        exact h2 _ _ j hj
    · exact hv.mono hle
  | _ => exact hv.mono hle

theorem frz_sound {L : Loc} (hle : G.le G') (hL : G.loc r k g = some L) (hk : L.k = kk) (hcap : es.length ≤ L.cap) (hm : L.cap ≤ maxLen) (hcl : ∀ i (h : i < es.length), es[i].cells.length = kk)
    (u : Nat → Nat → Value) (h1 : ∀ i j, i < es.length → j < kk → G'.imm L.block (i * kk + j) = some (u i j)) (h2 : ∀ i (h : i < es.length) j (h' : j < es[i].cells.length), VR G' es[i].cells[j] (u i j))
    {v : AV} {x : Value} (hv : VR G v x) : VR G' (frz r k g kk es v) x := by
  have two : ∀ (v : AV) (x : Value), VR G v x → VR G' (frz2 r k g kk es v) x := by
    intro v x hv
    cases v with
    | agg cs =>
      cases hv with
      | agg _ xs q1 q2 =>
      refine .agg _ _ (by simpa using q1) (fun i h h' => ?_)
      simp only [List.getElem_map]
      exact frz1_sound hle hL hk hcap hm hcl u h1 h2 (q2 i (by simpa using h) h')
    | _ => exact frz1_sound hle hL hk hcap hm hcl u h1 h2 hv
  cases v with
  | tuple vs =>
    cases hv with
    | tuple _ xs q1 q2 =>
    refine .tuple _ _ (by simpa using q1) (fun i h h' => ?_)
    simp only [List.getElem_map]
    exact two _ _ (q2 i (by simpa using h) h')
  | _ => exact two _ _ hv
end

theorem Wk.freeze {v : AV} {S : St} {r k g kk : Nat} {es : List AV} (hS : S r k = some (.arr kk es, g)) : Wk v S (frz r k g kk es v) (S.del r k) := fun G w x hr hv => by
  obtain ⟨G', hle, hr', L, a1, a2, a3, a4, a5, u, a6, a7⟩ := hr.freeze hS
  exact ⟨G', hle, hr', frz_sound hle a1 a2 a3 a4 a5 u a6 a7 hv⟩
theorem EWk.freeze {t : Env} {S : St} {r k g kk : Nat} {es : List AV} (hS : S r k = some (.arr kk es, g)) (d : Nat) : EWk t S (upd t d (frz r k g kk es (t d))) (S.del r k) := fun n G a w hr ht => by
  obtain ⟨G', hle, hr', L, a1, a2, a3, a4, a5, u, a6, a7⟩ := hr.freeze hS
  refine ⟨G', hle, hr', ht.1, ht.2.1, fun i => ?_⟩
  unfold upd
  split
  · rename_i e; subst e; exact frz_sound hle a1 a2 a3 a4 a5 u a6 a7 (ht.2.2 i)
  · exact (ht.2.2 i).mono hle
/-- All slots at once. -/
theorem EWk.freezeAll {t : Env} {S : St} {r k g kk : Nat} {es : List AV} (hS : S r k = some (.arr kk es, g)) : EWk t S (fun i => frz r k g kk es (t i)) (S.del r k) := fun n G a w hr ht => by
  obtain ⟨G', hle, hr', L, a1, a2, a3, a4, a5, u, a6, a7⟩ := hr.freeze hS
  exact ⟨G', hle, hr', ht.1, ht.2.1, fun i => frz_sound hle a1 a2 a3 a4 a5 u a6 a7 (ht.2.2 i)⟩

/-! ### Values seen otherwise -/
def VW (v v' : AV) : Prop := ∀ (G : Ghost) (x : Value), VR G v x → VR G v' x
theorem VW.refl (v : AV) : VW v v := fun _ _ h => h
theorem VW.junk (v : AV) : VW v .junk := fun _ _ _ => .junk _
theorem VW.nil : VW .nil (.list []) := fun _ _ h => by
  cases h
  exact .list [] none 0 0 0 0 0 (fun _ _ => undef) rfl (by omega) (by simp [maxLen]) (fun h => by omega) (fun i h => by simp at h) (fun i _ h => by omega) (fun i h => by simp at h)
theorem VW.agg {cs cs' : List AV} (hl : cs'.length = cs.length) (h : ∀ i (h : i < cs.length) (h' : i < cs'.length), VW cs[i] cs'[i]) : VW (.agg cs) (.agg cs') := fun G x hv => by
  cases hv with
  | agg _ xs q1 q2 => exact .agg _ _ (by omega) (fun i h1 h2 => h i (by omega) h1 _ _ (q2 i (by omega) h2))
theorem VW.tuple {cs cs' : List AV} (hl : cs'.length = cs.length) (h : ∀ i (h : i < cs.length) (h' : i < cs'.length), VW cs[i] cs'[i]) : VW (.tuple cs) (.tuple cs') := fun G x hv => by
  cases hv with
  | tuple _ xs q1 q2 => exact .tuple _ _ (by omega) (fun i h1 h2 => h i (by omega) h1 _ _ (q2 i (by omega) h2))
/-- nil read as an empty list. -/
def nz1 : AV → AV | .nil => .list [] | v => v
def nz2 : AV → AV | .agg cs => .agg (cs.map nz1) | v => nz1 v
def nz : AV → AV | .tuple cs => .tuple (cs.map nz2) | v => nz2 v
theorem VW.nz1 (v : AV) : VW v (nz1 v) := by cases v <;> first | exact VW.nil | exact VW.refl _
theorem VW.nz2 (v : AV) : VW v (nz2 v) := by
  cases v with
  | agg cs => exact VW.agg (by simp) (fun i h h' => by simp only [List.getElem_map]; exact VW.nz1 _)
  | _ => exact VW.nz1 _
theorem VW.nz (v : AV) : VW v (nz v) := by
  cases v with
  | tuple cs => exact VW.tuple (by simp) (fun i h h' => by simp only [List.getElem_map]; exact VW.nz2 _)
  | _ => exact VW.nz2 _
theorem Wk.of {v v' : AV} {S : St} (h : VW v v') : Wk v S v' S := fun G _ x hr hv => ⟨G, Ghost.le.refl G, hr, h G x hv⟩
theorem Gives.drop {R : AV → St → Prop} {v : AV} {S : St} (rg : Nat) (h : Gives R v (S.clear rg)) : Gives R v S := .wk (Wk.sub (clear_sub S rg)) h
theorem Gives.nz {R : AV → St → Prop} {S : St} {v : AV} (h : Gives R (Gg.nz v) S) : Gives R v S := .wk (Wk.of (VW.nz v)) h
theorem Gives.nil {R : AV → St → Prop} {S : St} (h : Gives R (.list []) S) : Gives R .nil S := .wk (Wk.of VW.nil) h
/-- A row is given out as a list; the region is forgotten. -/
theorem Gives.row {R : AV → St → Prop} {S : St} {kk r k g off n : Nat} {es : List AV} (hS : S r k = some (.arr kk es, g)) (hn : off + n ≤ es.length) (h : Gives R (.list ((es.drop off).take n)) (S.clear r)) : Gives R (.sl kk r k g off n) S := by
  refine .wk (Wk.trans (Wk.freeze hS) (Wk.sub (?_ : (S.clear r).sub _))) (?_ : Gives R (frz r k g kk es (.sl kk r k g off n)) _)
  · intro r' k' x h
    simp only [St.clear, St.del] at h ⊢
    split at h
    · cases h
    · rename_i hne; rw [if_neg (fun hc => hne hc.1)]; exact h
  · simp only [frz, frz2, frz1]
    rw [if_pos (by simp [hn])]
    exact h
theorem Gives.full {R : AV → St → Prop} {S : St} {kk r k g n : Nat} {es : List AV} (hS : S r k = some (.arr kk es, g)) (hn : n = es.length) (h : Gives R (.list es) (S.clear r)) : Gives R (.sl kk r k g 0 n) S :=
  .row hS (by omega) (by subst hn; simpa using h)
theorem EWk.slot {t : Env} {S : St} (d : Nat) {v' : AV} (h : VW (t d) v') : EWk t S (upd t d v') S := fun n G a w hr ht => by
  refine ⟨G, Ghost.le.refl G, hr, ht.1, ht.2.1, fun i => ?_⟩
  unfold upd
  split
  · rename_i e; subst e; exact h G _ (ht.2.2 i)
  · exact ht.2.2 i
theorem EWk.sub {t : Env} {S S' : St} (h : S'.sub S) : EWk t S t S' := fun n G a w hr ht => ⟨G, Ghost.le.refl G, hr.sub h, ht⟩


/-- A nil slice becomes an empty row of the call's own, under a key of choice. -/
theorem Rel.mat {G : Ghost} {S : St} {w : World} (hr : Rel G S w) (r k kk : Nat) (hk : 0 < kk) : ∃ g G', G.le G' ∧ Rel G' (S.set r k (.arr kk []) g) w ∧ VR G' (.sl kk r k g 0 0) (.slice none 0 0) := by
  obtain ⟨g, hg⟩ := hr.fresh r k
  obtain ⟨G', q1, q2, _, q4⟩ := hr.put (grownRefl w) r k g (.arr kk []) ⟨0, 0, kk, 0⟩ (fun b hb => by cases hb) (fun h => by simp at h) (.inl hg)
    (fun G' hle => ⟨by omega, rfl, by simp, by simp [maxLen], fun i h => by simp at h, fun h => by simp at h⟩)
  exact ⟨g, G', q1, q4, VR.sl (G := G') kk r k g 0 0 none _ q2 rfl (by simp) (by simp [maxLen]) (fun h => by simp at h)⟩
theorem Later.mat {K : Env → St → Prop} {t : Env} {S : St} (d r k kk : Nat) (h0 : t d = .nil) (hk : 0 < kk) (h : ∀ g, Later K (upd t d (.sl kk r k g 0 0)) (S.set r k (.arr kk []) g)) : Later K t S := fun n G a w hr ht => by
  obtain ⟨g, G', q1, q2, q3⟩ := hr.mat r k kk hk
  refine lift_mono (h g n G' a w q2 ⟨ht.1, ht.2.1, fun i => ?_⟩) q1
  unfold upd
  split
  · rename_i e
    subst e
    have := ht.2.2 i
    rw [h0] at this
    generalize a.tmps.getD i undef = x at this ⊢
    cases this
    exact q3
  · exact (ht.2.2 i).mono q1
/-- An argument that is nil goes as an empty row. -/
theorem Ctr.mat {P : Program} {f : FuncId} {as : List AV} {S : St} {R : AV → St → Prop} (i r k kk : Nat) (h0 : as[i]? = some .nil) (hk : 0 < kk) (h : ∀ g, Ctr P f (as.set i (.sl kk r k g 0 0)) (S.set r k (.arr kk []) g) R) : Ctr P f as S R := by
  refine ⟨(h 0).1, fun G w vs hr hvs => ?_⟩
  obtain ⟨g, G', q1, q2, q3⟩ := hr.mat r k kk hk
  refine ((h g).2 G' w vs q2 ⟨by simpa using hvs.1, fun j hj hj' => ?_⟩).mono ?_
  · rw [List.getElem_set]
    have hj0 : j < as.length := by simpa using hj
    split
    · rename_i e
      subst e
      have := hvs.2 i hj0 hj'
      rw [List.getElem?_eq_getElem hj0] at h0
      rw [Option.some.inj h0] at this
      generalize vs[i] = x at this ⊢
      cases this
      exact q3
    · exact (hvs.2 j hj0 hj').mono q1
  · rintro e w' ⟨v, av, S', G2, a1, a2, a3, a4, a5⟩
    exact ⟨v, av, S', G2, a1, a2, q1.trans a3, a4, a5⟩
/-- An argument is seen otherwise. -/
theorem Ctr.arg {P : Program} {f : FuncId} {as as' : List AV} {S : St} {R : AV → St → Prop} (hl : as'.length = as.length) (hv : ∀ i (h : i < as.length) (h' : i < as'.length), VW as[i] as'[i]) (h : Ctr P f as' S R) : Ctr P f as S R :=
  ⟨h.1, fun G w vs hr hvs => h.2 G w vs hr ⟨hvs.1.trans hl.symm, fun i h1 h2 => hv i (by omega) h1 G _ (hvs.2 i (by omega) h2)⟩⟩
theorem Ctr.nz {P : Program} {f : FuncId} {as : List AV} {S : St} {R : AV → St → Prop} (h : Ctr P f (as.map Gg.nz) S R) : Ctr P f as S R :=
  h.arg (by simp) (fun i h1 h2 => by simp only [List.getElem_map]; exact VW.nz _)
/-- A row among the arguments goes as a list, for good. -/
theorem Ctr.freeze {P : Program} {f : FuncId} {as : List AV} {S : St} {R : AV → St → Prop} {r k g kk : Nat} {es : List AV} (hS : S r k = some (.arr kk es, g)) (h : Ctr P f (as.map (frz r k g kk es)) (S.del r k) R) : Ctr P f as S R := by
  refine ⟨h.1, fun G w vs hr hvs => ?_⟩
  obtain ⟨G', hle, hr', L, a1, a2, a3, a4, a5, u, a6, a7⟩ := hr.freeze hS
  refine (h.2 G' w vs hr' ⟨by simpa using hvs.1, fun i h1 h2 => ?_⟩).mono ?_
  · simp only [List.getElem_map]
    exact frz_sound hle a1 a2 a3 a4 a5 u a6 a7 (hvs.2 i (by simpa using h1) h2)
  · rintro e w' ⟨v, av, S', G2, b1, b2, b3, b4, b5⟩
    exact ⟨v, av, S', G2, b1, b2, hle.trans b3, b4, b5⟩
/-- A whole row among the arguments (the only one) goes as a list. -/
theorem Ctr.row1 {P : Program} {f : FuncId} {S : St} {R : AV → St → Prop} {kk r k g n : Nat} {es : List AV} (hS : S r k = some (.arr kk es, g)) (hn : n = es.length) (h : Ctr P f [.list es] (S.del r k) R) : Ctr P f [.sl kk r k g 0 n] S R := by
  refine Ctr.freeze hS ?_
  have : [AV.sl kk r k g 0 n].map (frz r k g kk es) = [.list es] := by
    simp [frz, frz2, frz1, hn]
  rw [this]
  exact h
end Go.Gg
