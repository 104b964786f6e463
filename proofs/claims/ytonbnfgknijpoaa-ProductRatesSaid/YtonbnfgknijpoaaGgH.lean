/- An own logic over the kit's weakest preconditions, part H: operations that change the store, lists of operations, code, calls: the formulas and their soundness. Conditions: none. -/
import Derived.Test.YtonbnfgknijpoaaGgG
namespace Go.Gg
open Go.RowKit (Below)

def VRs (G : Ghost) (as : List AV) (vs : Array Value) : Prop := vs.size = as.length ∧ ∀ i (h : i < as.length) (h' : i < vs.size), VR G as[i] vs[i]

/-- A call at abstract arguments: in every concrete world that fits it returns, and what it leaves fits. -/
def ACalls (P : Program) (f : FuncId) (as : List AV) (S : St) (R : AV → St → Prop) : Prop :=
  ∀ (G : Ghost) (w : World) (vs : Array Value), Rel G S w → VRs G as vs →
    Calls P f vs w fun e w' => ∃ v av S' G', e = .returned v ∧ R av S' ∧ G.le G' ∧ Rel G' S' w' ∧ VR G' av v

theorem ACalls.mono {P : Program} {f : FuncId} {as : List AV} {S : St} {R R' : AV → St → Prop} (h : ACalls P f as S R) (hr : ∀ v S, R v S → R' v S) : ACalls P f as S R' :=
  fun G w vs h1 h2 => (h G w vs h1 h2).mono fun _ _ ⟨v, av, S', G', e, a, b, c, d⟩ => ⟨v, av, S', G', e, hr _ _ a, b, c, d⟩

/-- One operation. -/
def SOp (P : Program) (n : Nat) (o : Oper) (t : Env) (S : St) (K : AV → St → Prop) : Prop :=
  ∀ (G : Ghost) (a : Act) (w : World) (Kc : Act → World → Prop) (Q : Exit → Act → World → Prop), Rel G S w → TR n G t a →
    (∀ v av S' G' w', K av S' → G.le G' → Rel G' S' w' → VR G' av v → Kc (a.put o.dst v) w') → o.wp P a w Kc Q

theorem QOp.sop {P : Program} {n : Nat} {o : Oper} {t : Env} {S : St} {K : AV → St → Prop} (h : QOp P o (ev t) S (fun v => K v S)) : SOp P n o t S K := by
  intro G a w Kc Q hr ht hk
  obtain ⟨v, av, h1, h2, h3⟩ := h G a.eval w hr (fun x => ht.eval x)
  unfold Oper.wp
  rw [h1]
  exact hk v av S G w h2 (Ghost.le.refl G) hr h3

theorem sop_value {P : Program} {n : Nat} {o : Oper} {t : Env} {S : St} {K : AV → St → Prop} (s : (Operand → Value) → Sem Value) (hs : ∀ ρ, execOp ρ o = (do pure (.value (← s ρ))))
    (h : ∀ (G : Ghost) (ρ : Operand → Value) (w : World), Rel G S w → (∀ x, VR G (ev t x) (ρ x)) → ∃ v w' av S' G', (s ρ).run P w = .ok v w' ∧ K av S' ∧ G.le G' ∧ Rel G' S' w' ∧ VR G' av v) :
    SOp P n o t S K := by
  intro G a w Kc Q hr ht hk
  obtain ⟨v, w', av, S', G', h1, h2, h3, h4, h5⟩ := h G a.eval w hr (fun x => ht.eval x)
  unfold Oper.wp
  rw [hs, Sem.run_bind, h1]
  exact hk v av S' G' w' h2 h3 h4 h5

theorem sop_skip {P : Program} {n : Nat} {o : Oper} {t : Env} {S : St} {K : AV → St → Prop} (s : (Operand → Value) → Sem Unit) (hs : ∀ ρ, execOp ρ o = (do s ρ; pure .skip))
    (h : ∀ (G : Ghost) (ρ : Operand → Value) (w : World), Rel G S w → (∀ x, VR G (ev t x) (ρ x)) → ∃ w' S' G', (s ρ).run P w = .ok () w' ∧ K .junk S' ∧ G.le G' ∧ Rel G' S' w') :
    SOp P n o t S K := by
  intro G a w Kc Q hr ht hk
  obtain ⟨w', S', G', h1, h2, h3, h4⟩ := h G a.eval w hr (fun x => ht.eval x)
  unfold Oper.wp
  rw [hs, Sem.run_bind, h1]
  exact hk undef .junk S' G' w' h2 h3 h4 (.junk _)

/-! ### New objects -/
section
variable {P : Program} {G : Ghost} {S : St} {w : World}

theorem arr_at {G' : Ghost} {w' : World} {L : Loc} {es : List AV} {row : Array Value} (hrow : w'.heap[L.block]? = some (.cells row L.t (0, 0))) (hk : 0 < L.k) (hs : row.size = L.cap * L.k)
    (hl : es.length ≤ L.cap) (hm : L.cap ≤ maxLen) (hc : ∀ i (h : i < es.length), es[i].cells.length = L.k)
    (hv : ∀ i (h : i < es.length) j (h' : j < es[i].cells.length), ∃ x, row[i * L.k + j]? = some x ∧ VR G' es[i].cells[j] x) : ObjAt G' w' L (.arr L.k es) :=
  ⟨hk, rfl, hl, hm, hc, fun _ => ⟨row, hrow, hs, hv⟩⟩

/-- A new variable of type T that holds the value v. -/
theorem l_var {T : TypeId} {a : AV} {v : Value} (hr : Rel G S w) (hv : VR G a v) (hsol : a.solid = true) (hpos : 0 < a.cells.length) (r k g : Nat) (hg : G.loc r k g = none) :
    ∃ G', (newVar T v).run P w = .ok ⟨w.heap.size, 0, none⟩ (w.alloc (.cells v.cells T)) ∧ G.le G' ∧ Rel G' (S.set r k (.arr a.cells.length [a]) g) (w.alloc (.cells v.cells T)) ∧
      VR G' (.ptr r k g 0 0) (.pointer (some ⟨w.heap.size, 0, none⟩)) := by
  obtain ⟨c1, c2⟩ := hv.cells hsol
  obtain ⟨G', q1, q2, _, q4⟩ := hr.put (World.grownBy_alloc w (.cells v.cells T) none) r k g (.arr a.cells.length [a]) ⟨w.heap.size, 1, a.cells.length, T⟩
    (fun b hb => by cases hb) (fun _ => .inl (Nat.le_refl _)) (.inl hg)
    (fun G' hle => arr_at (L := ⟨w.heap.size, 1, a.cells.length, T⟩) (row := v.cells) (heap_alloc_new w _) hpos (by simpa using c1) (by simp) (by simp [maxLen])
      (fun i hi => by simp at hi; subst hi; rfl)
      (fun i hi j hj => by
        simp at hi; subst hi
        simp only [List.getElem_cons_zero, Nat.zero_mul, Nat.zero_add] at hj ⊢
        exact ⟨v.cells[j]'(by omega), by simp, (c2 j hj (by omega)).mono hle⟩))
  refine ⟨G', rfl, q1, q4, ?_⟩
  have := VR.ptr (G := G') r k g 0 0 _ q2
  simpa using this

theorem sop_alloc {n : Nat} {o : Oper} {t : Env} {T : TypeId} {K : AV → St → Prop} (ho : o.op = .alloc T) (r k : Nat) (hty : tyok P T = true)
    (h : ∀ g, K (.ptr r k g 0 0) (S.set r k (.arr (zav P T).cells.length [zav P T]) g)) : SOp P n o t S K := by
  refine sop_value (fun _ => Instr.alloc T true (.tuple #[])) (fun ρ => by simp only [execOp, ho]) fun G ρ w hr _ => ?_
  obtain ⟨g, hg⟩ := hr.fresh r k
  obtain ⟨i, z, hi, hz, hzs, hzv, hz0, hzsol⟩ := tyok_zero hty
  obtain ⟨h1, h2⟩ := run_zero (P := P) (G := G) (w := w) hty
  have hsol : (zav P T).solid = true := by unfold zav; rw [hzv]; exact hzsol
  have hpos : 0 < (zav P T).cells.length := by have := (h2.cells hsol).1; rw [hzv] at this; omega
  obtain ⟨G', q1, q2, q3, q4⟩ := l_var (P := P) (T := T) hr h2 hsol hpos r k g hg
  refine ⟨_, _, _, _, G', ?_, h g, q2, q3, q4⟩
  simp only [Instr.alloc, Sem.run_bind, h1, Result.andThen_ok, q1, Sem.run_pure]

theorem sop_box {n : Nat} {o : Oper} {t : Env} {T : TypeId} {x : Operand} {K : AV → St → Prop} (ho : o.op = .box T x) (r k : Nat) (hsol : (ev t x).solid = true) (hpos : 0 < (ev t x).cells.length)
    (h : ∀ g, K (.ptr r k g 0 0) (S.set r k (.arr (ev t x).cells.length [ev t x]) g)) : SOp P n o t S K := by
  refine sop_value (fun ρ => Instr.box T (ρ x)) (fun ρ => by simp only [execOp, ho]) fun G ρ w hr he => ?_
  obtain ⟨g, hg⟩ := hr.fresh r k
  obtain ⟨G', q1, q2, q3, q4⟩ := l_var (P := P) (T := T) hr (he x) hsol hpos r k g hg
  exact ⟨_, _, _, _, G', by simp only [Instr.box, Sem.run_bind, q1, Result.andThen_ok, Sem.run_pure], h g, q2, q3, q4⟩

/-! ### Stores -/
def vStore (P : Program) (T : TypeId) (a x : AV) (S : St) (K : AV → St → Prop) : Prop :=
  match a with
  | .ptr r k g i off => match S r k with
    | some (.arr kk es, g') => (g' = g ∧ i < es.length ∧ 0 < sz P T ∧ x.cells.length = sz P T ∧ off + sz P T ≤ kk ∧ allOne x.cells = true) ∧
        K .junk (S.set r k (.arr kk (es.set i (stv (es.getD i .junk) off x))) g)
    | _ => False
  | _ => False

theorem allOne_solid {x : AV} (h : allOne x.cells = true) : x.solid = true := by
  cases x <;> simp_all [allOne, AV.cells, AV.solid, AV.one]

theorem stv_get {v x : AV} {off kk : Nat} (hv : v.cells.length = kk) (hl : off + x.cells.length ≤ kk) (hx : 0 < x.cells.length) :
    (stv v off x).cells.length = kk ∧ ∀ j, j < kk → (stv v off x).cells[j]? = if off ≤ j ∧ j < off + x.cells.length then x.cells[j - off]? else v.cells[j]? := by
  have key : ∀ l : List AV, l.length = kk → (l.take off ++ x.cells ++ l.drop (off + x.cells.length)).length = kk ∧ ∀ j, j < kk →
      (l.take off ++ x.cells ++ l.drop (off + x.cells.length))[j]? = if off ≤ j ∧ j < off + x.cells.length then x.cells[j - off]? else l[j]? := by
    intro l hl'
    have hlt : (l.take off).length = off := by simp; omega
    refine ⟨by simp; omega, fun j hj => ?_⟩
    split
    · rename_i hc
      rw [List.append_assoc, List.getElem?_append_right (by omega), hlt, List.getElem?_append_left (by omega)]
    · rename_i hc
      by_cases h : j < off
      · rw [List.append_assoc, List.getElem?_append_left (by omega), List.getElem?_take, if_pos h]
      · rw [List.append_assoc, List.getElem?_append_right (by omega), hlt, List.getElem?_append_right (by omega), List.getElem?_drop]
        congr 1; omega
  cases v with
  | agg l => exact key l hv
  | _ =>
    have h1 : kk = 1 := by rw [← hv]; rfl
    subst h1
    have ho : off = 0 := by omega
    subst ho
    exact ⟨by show x.cells.length = 1; omega, fun j hj => by rw [if_pos (by omega)]; rfl⟩

theorem stv_cells {v x : AV} {off kk : Nat} (hv : v.cells.length = kk) (hl : off + x.cells.length ≤ kk) (hx : 0 < x.cells.length) :
    (stv v off x).cells.length = kk ∧ ∀ j, (h : j < kk) → (h1 : j < (stv v off x).cells.length) →
      (∃ (h2 : off ≤ j ∧ j - off < x.cells.length), (stv v off x).cells[j] = x.cells[j - off]'h2.2) ∨ (¬ (off ≤ j ∧ j < off + x.cells.length) ∧ ∃ h3 : j < v.cells.length, (stv v off x).cells[j] = v.cells[j]) := by
  obtain ⟨a1, a2⟩ := stv_get hv hl hx
  refine ⟨a1, fun j hj h1 => ?_⟩
  have := a2 j hj
  rw [List.getElem?_eq_getElem h1] at this
  split at this
  · rename_i hc
    have h2 : j - off < x.cells.length := by omega
    rw [List.getElem?_eq_getElem h2] at this
    exact .inl ⟨⟨hc.1, h2⟩, Option.some.inj this⟩
  · rename_i hc
    have h2 : j < v.cells.length := by omega
    rw [List.getElem?_eq_getElem h2] at this
    exact .inr ⟨hc, h2, Option.some.inj this⟩

theorem run_storeVar {T : TypeId} {b x : Nat} {v : Value} {row : Array Value} {et : TypeId} (hrow : w.heap[b]? = some (.cells row et (0, 0))) (hsz : 0 < sz P T) (hs : v.cells.size = sz P T)
    (hl : x + v.cells.size ≤ row.size) (h1 : ∀ u ∈ v.cells.toList, u.oneCell' = true) :
    (storeVar T ⟨b, x, none⟩ v).run P w = .ok () (w.setRow b (row.toList.take x ++ v.cells.toList ++ row.toList.drop (x + v.cells.toList.length)).toArray) := by
  have hst := run_storeCells_at P b x et v.cells.toList 0 row w hrow (by simpa using hl) h1
  simp only [Nat.add_zero] at hst
  simp [storeVar, run_sizeOf hsz, hs, hst]

theorem sop_store {n : Nat} {o : Oper} {t : Env} {T : TypeId} {a x : Operand} {K : AV → St → Prop} (ho : o.op = .store T a x) (h : vStore P T (ev t a) (ev t x) S K) : SOp P n o t S K := by
  refine sop_skip (fun ρ => Instr.storeAt T (ρ a) (ρ x)) (fun ρ => by simp only [execOp, ho]) fun G ρ w hr he => ?_
  have ha := he a
  have hx := he x
  generalize ρ a = va at ha
  generalize ρ x = vx at hx
  generalize ev t x = ax at hx h
  unfold vStore at h
  cases hae : ev t a with
  | ptr r k g i off =>
    rw [hae] at ha h
    cases ha with
    | ptr _ _ _ _ _ L hL =>
    simp only at h
    split at h
    · rename_i kk es g' hS
      obtain ⟨⟨rfl, hi, hsz, hxs, hoff, hone⟩, hK⟩ := h
      obtain ⟨L', hL', hobj, _⟩ := hr.obj _ _ _ _ hS
      obtain rfl : L' = L := by rw [hL] at hL'; exact (Option.some.inj hL').symm
      obtain ⟨hk0, hkk, hcap, hm, hcl, hrows⟩ := hobj
      obtain ⟨row, hrow, hrs, hel⟩ := hrows (by omega)
      obtain ⟨c1, c2⟩ := hx.cells (allOne_solid hone)
      have hxc : vx.cells.size = sz P T := by omega
      have hfl : i * L'.k + off + sz P T ≤ row.size := by
        rw [hrs, hkk]
        have : (i + 1) * kk ≤ L'.cap * kk := Nat.mul_le_mul_right _ (by omega)
        rw [Nat.succ_mul] at this
        omega
      have hones : ∀ u ∈ vx.cells.toList, u.oneCell' = true := by
        intro u hu
        obtain ⟨j, hj, rfl⟩ := List.mem_iff_getElem.1 hu
        simp only [Array.length_toList] at hj
        rw [Array.getElem_toList]
        have hj' : j < ax.cells.length := by omega
        refine (c2 j hj' hj).oneCell ?_
        exact List.all_eq_true.1 hone _ (List.getElem_mem hj')
      have hrun := run_storeVar (P := P) (w := w) (T := T) (x := i * L'.k + off) hrow hsz hxc (by omega) hones
      have hset := setRow_heap w L'.block row (row.toList.take (i * L'.k + off) ++ vx.cells.toList ++ row.toList.drop (i * L'.k + off + vx.cells.toList.length)).toArray L'.t (0, 0) hrow
      have hge : es.getD i .junk = es[i] := by rw [List.getD_eq_getElem?_getD, List.getElem?_eq_getElem hi]; rfl
      rw [hge] at hK
      obtain ⟨s1, s2⟩ := stv_cells (v := es[i]) (x := ax) (off := off) (hcl i hi) (by omega) (by omega)
      have hrow' : ∀ p, p < row.size → (row.toList.take (i * L'.k + off) ++ vx.cells.toList ++ row.toList.drop (i * L'.k + off + vx.cells.toList.length))[p]? =
          if h : i * L'.k + off ≤ p ∧ p < i * L'.k + off + vx.cells.size then vx.cells[p - (i * L'.k + off)]? else row[p]? := by
        intro p hp
        have hlt : (row.toList.take (i * L'.k + off)).length = i * L'.k + off := by simp; omega
        split
        · rename_i hc
          rw [List.append_assoc, List.getElem?_append_right (by omega), hlt, List.getElem?_append_left (by simp; omega)]
          simp
        · rename_i hc
          by_cases hlt' : p < i * L'.k + off
          · rw [List.append_assoc, List.getElem?_append_left (by omega), List.getElem?_take, if_pos hlt']
            simp
          · rw [List.append_assoc, List.getElem?_append_right (by omega), hlt, List.getElem?_append_right (by simp; omega), List.getElem?_drop]
            simp only [Array.length_toList]
            rw [show i * L'.k + off + vx.cells.size + (p - (i * L'.k + off) - vx.cells.size) = p from by omega]
            simp
      obtain ⟨G', q1, q2, _, q4⟩ := hr.put (w' := w.setRow L'.block _) (row := some L'.block) ⟨rfl, rfl, rfl, by simp, fun b _ hb => setRow_other w L'.block b _ (fun e => hb (by rw [e]))⟩ r k g'
        (.arr kk (es.set i (stv es[i] off ax))) L' (fun b hb => by injection hb with hb; subst hb; exact ⟨_, _, _, hS, hL, by omega, rfl⟩) (fun hc => .inr ⟨_, _, _, hS, hL, hc, rfl⟩) (.inr hL)
        (fun G' hle => by
          rw [← hkk]
          refine arr_at (row := (row.toList.take (i * L'.k + off) ++ vx.cells.toList ++ row.toList.drop (i * L'.k + off + vx.cells.toList.length)).toArray) hset (by omega) ?_ (by simpa using hcap) hm ?_ ?_
          · have hrs' : row.size = L'.cap * L'.k := by rw [hkk]; exact hrs
            simp only [List.size_toArray, List.length_append, List.length_take, List.length_drop, Array.length_toList]
            rw [← hrs']
            omega
          · intro i' hi'
            simp only [List.length_set] at hi'
            rw [List.getElem_set]
            split
            · rw [s1, hkk]
            · rw [hcl i' hi', hkk]
          · intro i' hi' j hj
            simp only [List.length_set] at hi'
            have hjk : j < kk := by
              rw [List.getElem_set] at hj
              split at hj
              · omega
              · rw [hcl i' hi'] at hj; exact hj
            have hp : i' * L'.k + j < row.size := by rw [hrs, hkk]; exact flat_lt (by omega) hjk
            have hq := hrow' (i' * L'.k + j) hp
            simp only [List.getElem?_toArray]
            rw [hq]
            by_cases hii : i = i'
            · subst hii
              simp only [List.getElem_set_self] at hj ⊢
              rcases s2 j hjk hj with ⟨h2, e⟩ | ⟨h2, h3, e⟩
              · rw [dif_pos (by omega), e]
                rw [show i * L'.k + j - (i * L'.k + off) = j - off from by omega]
                exact ⟨vx.cells[j - off]'(by omega), by simp, (c2 _ h2.2 (by omega)).mono hle⟩
              · rw [dif_neg (by omega), e]
                obtain ⟨y, y1, y2⟩ := hel i hi j h3
                rw [hkk]
                exact ⟨y, y1, y2.mono hle⟩
            · have hne : ¬ (i * L'.k + off ≤ i' * L'.k + j ∧ i' * L'.k + j < i * L'.k + off + vx.cells.size) := by
                rintro ⟨b1, b2⟩
                have h3 : i' * L'.k + j = i * L'.k + (i' * L'.k + j - i * L'.k) := by omega
                have h4 : i' * L'.k + j - i * L'.k < L'.k := by omega
                exact hii (flat_eq (by omega) h4 h3).1.symm
              rw [dif_neg hne]
              simp only [List.getElem_set_ne hii] at hj ⊢
              obtain ⟨y, y1, y2⟩ := hel i' hi' j hj
              rw [hkk]
              exact ⟨y, y1, y2.mono hle⟩)
      refine ⟨_, _, G', ?_, hK, q1, q4⟩
      simp only [Instr.storeAt, Instr.sureAddr, Sem.run_bind, Sem.run_pure, Result.andThen_ok]
      exact hrun
    · exact h.elim
  | _ => rw [hae] at h; exact h.elim
end
end Go.Gg
