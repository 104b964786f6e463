/- An own logic over the kit's weakest preconditions, part K: one operation of any kind, lists of operations, code; soundness. Conditions: none. -/
import Derived.Test.YtonbnfgknijpoaaGgJ
namespace Go.Gg
open Go.RowKit (Below)

/-- The function has a body that is run. -/
def callable (P : Program) (f : FuncId) : Bool := match P.funcs[f]? with
  | some fn => !(fn.name == "runtime.NumGoroutine") && fn.body.isSome
  | none => false

/-- A contract. -/
def Ctr (P : Program) (f : FuncId) (as : List AV) (S : St) (R : AV → St → Prop) : Prop := callable P f = true ∧ ACalls P f as S R
theorem Ctr.mono {P : Program} {f : FuncId} {as : List AV} {S : St} {R R' : AV → St → Prop} (h : Ctr P f as S R) (hr : ∀ v S, R v S → R' v S) : Ctr P f as S R' := ⟨h.1, h.2.mono hr⟩

def loud : Op → Bool
  | .alloc _ | .box .. | .store .. | .makeSlice .. | .buildSlice .. => true
  | .call { callee := .builtin .append, .. } => true
  | .call { callee := .value _, .. } => true
  | _ => false

def vl (P : Program) (rg : Nat) (k : Nat) (o : Op) (e : Operand → AV) (S : St) (K : AV → St → Prop) : Prop :=
  match o with
  | .alloc T => tyok P T = true ∧ ∀ g, K (.ptr rg k g 0 0) (S.set rg k (.arr (zav P T).cells.length [zav P T]) g)
  | .box _ x => ((e x).solid = true ∧ 0 < (e x).cells.length) ∧ ∀ g, K (.ptr rg k g 0 0) (S.set rg k (.arr (e x).cells.length [e x]) g)
  | .store T a x => vStore P T (e a) (e x) S K
  | .makeSlice T l c => vMake P rg k T (e l) (e c) S K
  | .buildSlice T len parts => vBuildSlice P rg k T len (parts.toList.map (·.1)) (parts.toList.map fun p => e p.2) S K
  | .call { callee := .builtin .append, args := xs, argTypes := ts } => match xs.toList, ts.toList with
    | [b, x], [T, T'] => T = T' ∧ vAppend P rg k T (e b) (e x) S K
    | _, _ => False
  | .call { callee := .value f, args := xs, argTypes := _ } => match e f with
    | .fn (.func g) [] caps => Ctr P g (xs.toList.map e ++ caps) S K
    | _ => False
  | _ => False

theorem vl_sound {P : Program} {n rg k : Nat} {o : Oper} {t : Env} {S : St} {K : AV → St → Prop} (h : vl P rg k o.op (ev t) S K) : SOp P n o t S K := by
  cases ho : o.op with
  | alloc T => rw [ho] at h; exact sop_alloc ho rg k h.1 h.2
  | box T x => rw [ho] at h; exact sop_box ho rg k h.1.1 h.1.2 h.2
  | store T a x => rw [ho] at h; exact sop_store ho h
  | makeSlice T l c => rw [ho] at h; exact sop_make ho rg k h
  | buildSlice T len parts => rw [ho] at h; exact sop_buildSlice ho rg k h
  | call c =>
    rw [ho] at h
    obtain ⟨callee, xs, ts⟩ := c
    cases callee with
    | invoke r m => exact h.elim
    | builtin b =>
      cases b <;> first | exact h.elim | skip
      simp only [vl] at h
      split at h
      · rename_i b x T T' hx ht
        obtain rfl : xs = #[b, x] := by cases xs; simp_all
        obtain rfl : ts = #[T, T'] := by cases ts; simp_all
        obtain ⟨rfl, h⟩ := h
        exact sop_append ho rg k h
      · exact h.elim
    | value f =>
      simp only [vl] at h
      split at h
      · rename_i g caps hf
        obtain ⟨hc, h⟩ := h
        intro G a w Kc Q hr ht hk
        have hfv := ht.eval f
        rw [hf] at hfv
        generalize hcv : a.eval f = cv at hfv
        cases hfv with
        | fn _ _ _ fs cs q1 q2 q3 q4 =>
        obtain rfl : fs = #[] := Array.eq_empty_of_size_eq_zero (by simpa using q1)
        unfold callable at hc
        cases hfn : P.funcs[g]? with
        | none => simp [hfn] at hc
        | some fn =>
        simp only [hfn, Bool.and_eq_true, Bool.not_eq_true'] at hc
        have hrun : (execOp a.eval o).run P w = .ok (.enter g (xs.map a.eval ++ cs)) w := by
          have hb : fn.body ≠ none := by intro e; simp [e] at hc
          have hnm : fn.name ≠ "runtime.NumGoroutine" := by simpa using hc.1
          simp [execOp, ho, resolve, hcv, Deferred.ofValue, invoke, callFunc, hfn, hnm, hb]
        unfold Oper.wp
        rw [hrun]
        refine (h G w _ hr ⟨by simp; omega, fun i h1 h2 => ?_⟩).mono ?_
        · by_cases hi : i < xs.size
          · have e1 : (xs.toList.map (ev t) ++ caps)[i] = ev t xs[i] := by rw [List.getElem_append_left (by simpa using hi)]; simp
            have e2 : (xs.map a.eval ++ cs)[i] = a.eval xs[i] := by rw [Array.getElem_append_left (by simpa using hi)]; simp
            rw [e1, e2]
            exact ht.eval _
          · simp at h1 h2
            have e1 : (xs.toList.map (ev t) ++ caps)[i]'(by simp; omega) = caps[i - xs.size]'(by omega) := by rw [List.getElem_append_right (by simp; omega)]; simp
            have e2 : (xs.map a.eval ++ cs)[i]'(by simp; omega) = cs[i - xs.size]'(by omega) := by rw [Array.getElem_append_right (by simp; omega)]; simp
            rw [e1, e2]
            exact q4 _ _ _
        · rintro e w' ⟨v, av, S', G', rfl, b1, b2, b3, b4⟩
          exact hk v av S' G' w' b1 b2 b3 b4
      · exact h.elim
  | _ => rw [ho] at h; exact h.elim

/-- One operation of any kind. -/
def vop (P : Program) (rg : Nat) (o : Oper) (t : Env) (S : St) (K : AV → St → Prop) : Prop :=
  bif loud o.op then vl P rg (o.dst.getD 0) o.op (ev t) S K else vq P o.op (ev t) S (fun v => K v S)

theorem vop_sound {P : Program} {n rg : Nat} {o : Oper} {t : Env} {S : St} {K : AV → St → Prop} (h : vop P rg o t S K) : SOp P n o t S K := by
  unfold vop at h
  cases hl : loud o.op with
  | true =>
    rw [hl] at h
    have h' : vl P rg (o.dst.getD 0) o.op (ev t) S K := h
    exact vl_sound h'
  | false =>
    rw [hl] at h
    have h' : vq P o.op (ev t) S (fun v => K v S) := h
    exact (vq_sound h').sop

/-- A list of operations in its order. -/
def vops (P : Program) (rg : Nat) (ops : List Oper) : List Oper → Env → St → (Env → St → Prop) → Prop
  | [], t, S, K => K t S
  | o :: rest, t, S, K => match o.guard with
    | none => vop P rg o t S (fun v S' => vops P rg ops rest (updo t o.dst v) S' K)
    | some (j, want) => match (ops[j]?).bind (·.dst) with
      | some d => match t d with
        | .bool b => (b = want → vop P rg o (upd t d (.bool want)) S (fun v S' => vops P rg ops rest (updo (upd t d (.bool want)) o.dst v) S' K)) ∧
            (b = !want → vops P rg ops rest (updo (upd t d (.bool !want)) o.dst .junk) S K)
        | _ => False
      | none => False

/-- What is known behind a piece of code, lifted to the concrete side. -/
structure AK where
  nrm : Env → St → Prop
  ex : Nat → Env → St → Prop
  ret : Env → St → Prop

def lift (n : Nat) (G : Ghost) (K : Env → St → Prop) (a : Act) (w : World) : Prop := ∃ t S G', K t S ∧ G.le G' ∧ Rel G' S w ∧ TR n G' t a
def AK.lift (n : Nat) (G : Ghost) (Q : AK) : Exit → Act → World → Prop
  | .normal => Gg.lift n G Q.nrm
  | .exit id => Gg.lift n G (Q.ex id)
  | .ret => Gg.lift n G Q.ret
  | _ => fun _ _ => False

theorem lift_mono {n : Nat} {G G' : Ghost} {K : Env → St → Prop} {a : Act} {w : World} (h : lift n G' K a w) (hg : G.le G') : lift n G K a w :=
  let ⟨t, S, G2, a1, a2, a3, a4⟩ := h; ⟨t, S, G2, a1, hg.trans a2, a3, a4⟩

theorem upd_same {t : Env} {d : Nat} {v : AV} (h : t d = v) : upd t d v = t := by
  funext k
  unfold upd
  split
  · rename_i e; rw [e, h]
  · rfl

theorem yields {n : Nat} {G : Ghost} {t : Env} {a : Act} (h : TR n G t a) {ops : List Oper} {j d : Nat} {b : Bool} (hd : (ops[j]?).bind (·.dst) = some d) (hb : t d = .bool b) :
    yielded ops.toArray a.tmps j = some b := by
  have h1 := h.2.2 d
  rw [hb] at h1
  generalize hv : a.tmps.getD d undef = v at h1
  cases h1
  unfold yielded
  simp only [List.getElem?_toArray, hd]
  rw [Array.getD_eq_getD_getElem?] at hv
  cases hg : a.tmps[d]? with
  | none => rw [hg] at hv; simp [undef] at hv
  | some x => rw [hg] at hv; simp at hv; subst hv; simp only [Option.bind_some, hg]

theorem vops_sound {P : Program} {n rg : Nat} {ops : List Oper} {Q : Exit → Act → World → Prop} : ∀ (l : List Oper) (t : Env) (S : St) (K : Env → St → Prop) (G : Ghost) (a : Act) (w : World),
    (∀ o ∈ l, ∀ d, o.dst = some d → d < n) → vops P rg ops l t S K → Rel G S w → TR n G t a → (∀ a w, lift n G K a w → Q .normal a w) → wpList P ops.toArray Q l a w
  | [], t, S, K, G, a, w, _, h, hr, ht, hQ => hQ a w ⟨t, S, G, h, Ghost.le.refl G, hr, ht⟩
  | o :: rest, t, S, K, G, a, w, hd, h, hr, ht, hQ => by
    have hdo := hd o (by simp)
    have step : ∀ (t' : Env), TR n G t' a → vop P rg o t' S (fun v S' => vops P rg ops rest (updo t' o.dst v) S' K) → o.wp P a w (wpList P ops.toArray Q rest) Q := by
      intro t' ht' hv
      refine vop_sound hv G a w _ Q hr ht' (fun v av S' G' w' hk hle hr' hav => ?_)
      exact vops_sound rest _ S' K G' _ w' (fun o ho => hd o (by simp [ho])) hk hr' ((ht'.mono hle).put hdo hav) (fun a w hl => hQ a w (lift_mono hl hle))
    unfold wpList
    cases hg : o.guard with
    | none =>
      simp only [vops, hg] at h
      rw [if_pos (by simp [Region.wanted, hg])]
      exact .inl (step t ht h)
    | some gw =>
      obtain ⟨j, want⟩ := gw
      simp only [vops, hg] at h
      split at h
      · rename_i d hdj
        split at h
        · rename_i b hb
          have hy := yields ht hdj hb
          obtain ⟨h1, h2⟩ := h
          have hw : Region.wanted o (yielded ops.toArray a.tmps) = (b == want) := by simp only [Region.wanted, hg, hy]; cases b <;> cases want <;> rfl
          by_cases hbw : b = want
          · rw [if_pos (by rw [hw]; simp [hbw])]
            have e : upd t d (.bool want) = t := upd_same (by rw [hb, hbw])
            have := h1 hbw
            rw [e] at this
            exact .inl (step t ht this)
          · rw [if_neg (by rw [hw]; simp [hbw])]
            have hbn : b = !want := by cases b <;> cases want <;> simp_all
            have e : upd t d (.bool !want) = t := upd_same (by rw [hb, hbn])
            have := h2 hbn
            rw [e] at this
            exact vops_sound rest _ S K G _ w (fun o ho => hd o (by simp [ho])) this hr (ht.put hdo (.junk _)) hQ
        · exact h.elim
      · exact h.elim

/-! ### Weakening: a piece of what is known is forgotten or seen otherwise -/
def EWk (t : Env) (S : St) (t' : Env) (S' : St) : Prop := ∀ (n : Nat) (G : Ghost) (a : Act) (w : World), Rel G S w → TR n G t a → ∃ G', G.le G' ∧ Rel G' S' w ∧ TR n G' t' a
theorem EWk.refl (t : Env) (S : St) : EWk t S t S := fun _ G _ _ hr ht => ⟨G, Ghost.le.refl G, hr, ht⟩
theorem EWk.trans {t t' t'' : Env} {S S' S'' : St} (h : EWk t S t' S') (h' : EWk t' S' t'' S'') : EWk t S t'' S'' := fun n G a w hr ht =>
  let ⟨G1, a1, a2, a3⟩ := h n G a w hr ht
  let ⟨G2, b1, b2, b3⟩ := h' n G1 a w a2 a3
  ⟨G2, a1.trans b1, b2, b3⟩
/-- Known, once something is forgotten or seen otherwise. -/
def Later (K : Env → St → Prop) (t : Env) (S : St) : Prop := ∀ (n : Nat) (G : Ghost) (a : Act) (w : World), Rel G S w → TR n G t a → lift n G K a w
theorem Later.now {K : Env → St → Prop} {t : Env} {S : St} (h : K t S) : Later K t S := fun _ G _ _ hr ht => ⟨t, S, G, h, Ghost.le.refl G, hr, ht⟩
theorem Later.wk {K : Env → St → Prop} {t t' : Env} {S S' : St} (hw : EWk t S t' S') (h : Later K t' S') : Later K t S := fun n G a w hr ht =>
  let ⟨G1, a1, a2, a3⟩ := hw n G a w hr ht
  lift_mono (h n G1 a w a2 a3) a1
theorem lift_later {n : Nat} {G : Ghost} {K : Env → St → Prop} {a : Act} {w : World} (h : lift n G (Later K) a w) : lift n G K a w := by
  obtain ⟨t, S, G1, hl, a1, a2, a3⟩ := h
  exact lift_mono (hl n G1 a w a2 a3) a1

/-! ### Code -/
/-- A region that draws its order: whatever it comes to. -/
def vdr (P : Program) (n : Nat) (ops : Array Oper) (K : Env → St → Prop) (t : Env) (S : St) : Prop :=
  ∀ (G : Ghost) (a : Act) (w : World) (Q : Exit → Act → World → Prop), Rel G S w → TR n G t a → (∀ a w, lift n G K a w → Q .normal a w) →
    wpAny P .any ops Q ops.size (Array.replicate ops.size false) a w

def vc (P : Program) (n rg : Nat) : Code → AK → Env → St → Prop
  | .skip, Q, t, S => Q.nrm t S
  | .region _ ops draw, Q, t, S => bif draw then vdr P n ops Q.nrm t S else vops P rg ops.toList ops.toList t S Q.nrm
  | .seq a b, Q, t, S => ∃ R : Env → St → Prop, vc P n rg a { Q with nrm := R } t S ∧ ∀ t S, R t S → Later (vc P n rg b Q) t S
  | .cond c a b, Q, t, S => match ev t c with
    | .bool v => (v = true → vc P n rg a Q t S) ∧ (v = false → vc P n rg b Q t S)
    | _ => False
  | .block id c, Q, t, S => vc P n rg c { Q with ex := fun i t S => if i = id then Q.nrm t S else Q.ex i t S } t S
  | .loop c, Q, t, S => ∃ (I : Env → St → Prop) (μ : Env → St → Nat), I t S ∧ ∀ t S, I t S → vc P n rg c { Q with nrm := fun t' S' => I t' S' ∧ μ t' S' < μ t S } t S
  | .exit id, Q, t, S => Q.ex id t S
  | .ret, Q, t, S => Q.ret t S
  | _, _, _, _ => False

theorem wp_loop_by {P : Program} {c : Code} {Q : Exit → Act → World → Prop} {α : Type} (I : α → Act → World → Prop) (μ : α → Nat) {a : Act} {w : World} {x : α} (h₀ : I x a w)
    (round : ∀ x a w, I x a w → c.wp P (Exit.then (fun a' w' => ∃ x', I x' a' w' ∧ μ x' < μ x) Q) a w) : (Code.loop c).wp P Q a w := by
  intro b k cs
  have key : ∀ n x a w, μ x = n → I x a w →
      ∃ e a' w', Q e a' w' ∧ Arrives P (lone (b.at a (.code c :: .inLoop c :: k)) cs w) b k cs e a' w' := by
    intro n
    induction n using Nat.strongRecOn with
    | _ n ih =>
      intro x a w hn hI
      obtain ⟨e, a₁, w₁, hq, harr⟩ := round x a w hI b (.inLoop c :: k) cs
      cases e with
      | normal =>
        obtain ⟨x', hI₁, hlt⟩ := hq
        obtain ⟨e₂, a₂, w₂, hq₂, harr₂⟩ := ih (μ x') (hn ▸ hlt) x' a₁ w₁ rfl hI₁
        exact ⟨e₂, a₂, w₂, hq₂, .of_steps (Steps.trans harr (.one step_inLoop)) harr₂⟩
      | exit id => exact ⟨_, a₁, w₁, hq, .pass (x := .inLoop c) rfl (fun _ _ => .inl (by simp)) harr⟩
      | goto l => exact ⟨_, a₁, w₁, hq, .pass (x := .inLoop c) rfl (fun _ _ => .inl (by simp)) harr⟩
      | ret => exact ⟨_, a₁, w₁, hq, .pass (x := .inLoop c) rfl (fun _ _ => .inl (by simp)) harr⟩
      | panic ch => exact ⟨_, a₁, w₁, hq, .pass (x := .inLoop c) rfl (fun _ _ => .inl (by simp)) harr⟩
      | outgrown => exact ⟨_, a₁, w₁, hq, .pass (x := .inLoop c) rfl (fun _ _ => .inl (by simp)) harr⟩
  obtain ⟨e, a', w', hq, harr⟩ := key _ x a w rfl h₀
  exact ⟨e, a', w', hq, .of_steps (.one step_loop) harr⟩

def codeOk (n : Nat) : Code → Bool
  | .region _ ops _ => ops.all fun o => match o.dst with | some d => decide (d < n) | none => true
  | .seq a b => codeOk n a && codeOk n b
  | .cond _ a b => codeOk n a && codeOk n b
  | .block _ c => codeOk n c
  | .loop c => codeOk n c
  | _ => true

theorem vc_sound {P : Program} {n rg : Nat} (hm : P.follows .mixedOrders = true) : ∀ (c : Code), codeOk n c = true → ∀ (Q : AK) (t : Env) (S : St) (G : Ghost) (a : Act) (w : World),
    vc P n rg c Q t S → Rel G S w → TR n G t a → c.wp P (Q.lift n G) a w
  | .skip, _, Q, t, S, G, a, w, h, hr, ht => wp_skip ⟨t, S, G, h, Ghost.le.refl G, hr, ht⟩
  | .region id ops false, hok, Q, t, S, G, a, w, h, hr, ht => by
    refine wp_region_list ?_
    have hd : ∀ o ∈ ops.toList, ∀ d, o.dst = some d → d < n := fun o ho d hd => by
      have := Array.all_eq_true_iff_forall_mem.1 hok o (by simpa using ho)
      simpa [hd] using this
    have := vops_sound (P := P) (ops := ops.toList) (Q := Q.lift n G) ops.toList t S Q.nrm G a w hd h hr ht (fun a w hl => hl)
    simpa using this
  | .region id ops true, hok, Q, t, S, G, a, w, h, hr, ht =>
    wp_region_any hm (h G a _ (Q.lift n G) (hr.drawn _) ht (fun a w hl => hl))
  | .seq x y, hok, Q, t, S, G, a, w, h, hr, ht => by
    simp only [codeOk, Bool.and_eq_true] at hok
    obtain ⟨R, h1, h2⟩ := h
    refine wp_seq (wp_mono (vc_sound hm x hok.1 _ t S G a w h1 hr ht) (fun e a w he => ?_))
    cases e with
    | normal =>
      obtain ⟨t', S', G', r, le, hr', ht'⟩ := he
      obtain ⟨t2, S2, G2, r2, le2, hr2, ht2⟩ := lift_later (n := n) (G := G') (a := a) (w := w) ⟨t', S', G', h2 _ _ r, Ghost.le.refl _, hr', ht'⟩
      refine wp_mono (vc_sound hm y hok.2 Q t2 S2 G2 a w r2 hr2 ht2) (fun e a w he => ?_)
      have hle := le.trans le2
      cases e <;> first | exact lift_mono he hle | exact he
    | exit id => exact he
    | ret => exact he
    | goto l => exact he
    | panic c => exact he
    | outgrown => exact he
  | .cond c x y, hok, Q, t, S, G, a, w, h, hr, ht => by
    simp only [codeOk, Bool.and_eq_true] at hok
    simp only [vc] at h
    split at h
    · rename_i v hc
      have hcv := ht.eval c
      rw [hc] at hcv
      generalize he : a.eval c = cv at hcv
      cases hcv
      exact wp_cond_split he (fun hv => vc_sound hm x hok.1 Q t S G a w (h.1 hv) hr ht) (fun hv => vc_sound hm y hok.2 Q t S G a w (h.2 hv) hr ht)
    · exact h.elim
  | .block id c, hok, Q, t, S, G, a, w, h, hr, ht => by
    refine wp_block (wp_mono (vc_sound hm c hok _ t S G a w h hr ht) (fun e a w he => ?_))
    cases e with
    | exit id' =>
      simp only [Exit.inBlock]
      obtain ⟨t', S', G', r, le, hr', ht'⟩ := he
      simp only at r
      split
      · rename_i hid; rw [if_pos hid] at r; exact ⟨t', S', G', r, le, hr', ht'⟩
      · rename_i hid; rw [if_neg hid] at r; exact ⟨t', S', G', r, le, hr', ht'⟩
    | normal => exact he
    | ret => exact he
    | goto l => exact he
    | panic c => exact he
    | outgrown => exact he
  | .loop c, hok, Q, t, S, G, a, w, h, hr, ht => by
    obtain ⟨I, μ, h0, hround⟩ := h
    refine wp_loop_by (α := Env × St × Ghost) (fun x a w => I x.1 x.2.1 ∧ G.le x.2.2 ∧ Rel x.2.2 x.2.1 w ∧ TR n x.2.2 x.1 a) (fun x => μ x.1 x.2.1) (x := (t, S, G)) ⟨h0, Ghost.le.refl G, hr, ht⟩ ?_
    rintro ⟨t, S, G'⟩ a w ⟨hI, hle, hr, ht⟩
    refine wp_mono (vc_sound hm c hok _ t S G' a w (hround t S hI) hr ht) (fun e a w he => ?_)
    cases e with
    | normal =>
      obtain ⟨t', S', G2, ⟨r1, r2⟩, le, hr', ht'⟩ := he
      exact ⟨(t', S', G2), ⟨r1, hle.trans le, hr', ht'⟩, r2⟩
    | exit id => exact lift_mono he hle
    | ret => exact lift_mono he hle
    | goto l => exact he
    | panic c => exact he
    | outgrown => exact he
  | .exit id, _, Q, t, S, G, a, w, h, hr, ht => wp_exit ⟨t, S, G, h, Ghost.le.refl G, hr, ht⟩
  | .ret, _, Q, t, S, G, a, w, h, hr, ht => wp_ret ⟨t, S, G, h, Ghost.le.refl G, hr, ht⟩
  | .rangeFunc .., _, _, _, _, _, _, _, h, _, _ => h.elim
  | .scope .., _, _, _, _, _, _, _, h, _, _ => h.elim
  | .label .., _, _, _, _, _, _, _, h, _, _ => h.elim
  | .goto .., _, _, _, _, _, _, _, h, _, _ => h.elim
  | .refuse .., _, _, _, _, _, _, _, h, _, _ => h.elim

/-! ### Entering a function -/
def vres (P : Program) : List ResultVar → Env → St → (List AV → Prop) → Prop
  | [], _, _, K => K []
  | .tmp k :: rest, t, S, K => vres P rest t S (fun vs => K (t k :: vs))
  | .cell a T :: rest, t, S, K => vLoad P T (t a) S (fun v => vres P rest t S (fun vs => K (v :: vs)))
def vtup : List AV → AV | [v] => v | vs => .tuple vs

/-- What is known of a value may be forgotten, or seen otherwise. -/
def Wk (v : AV) (S : St) (v' : AV) (S' : St) : Prop := ∀ (G : Ghost) (w : World) (x : Value), Rel G S w → VR G v x → ∃ G', G.le G' ∧ Rel G' S' w ∧ VR G' v' x
theorem Wk.refl (v : AV) (S : St) : Wk v S v S := fun G _ _ hr hv => ⟨G, Ghost.le.refl G, hr, hv⟩
theorem Wk.trans {v v' v'' : AV} {S S' S'' : St} (h : Wk v S v' S') (h' : Wk v' S' v'' S'') : Wk v S v'' S'' := fun G w x hr hv =>
  let ⟨G1, a1, a2, a3⟩ := h G w x hr hv
  let ⟨G2, b1, b2, b3⟩ := h' G1 w x a2 a3
  ⟨G2, a1.trans b1, b2, b3⟩
theorem Wk.sub {v : AV} {S S' : St} (h : S'.sub S) : Wk v S v S' := fun G _ _ hr hv => ⟨G, Ghost.le.refl G, hr.sub h, hv⟩
def Gives (R : AV → St → Prop) (v : AV) (S : St) : Prop := ∀ (G : Ghost) (w : World) (x : Value), Rel G S w → VR G v x → ∃ v' S' G', R v' S' ∧ G.le G' ∧ Rel G' S' w ∧ VR G' v' x
theorem Gives.now {R : AV → St → Prop} {v : AV} {S : St} (h : R v S) : Gives R v S := fun G _ _ hr hv => ⟨v, S, G, h, Ghost.le.refl G, hr, hv⟩
theorem Gives.wk {R : AV → St → Prop} {v v' : AV} {S S' : St} (hw : Wk v S v' S') (h : Gives R v' S') : Gives R v S := fun G w x hr hv =>
  let ⟨G1, a1, a2, a3⟩ := hw G w x hr hv
  let ⟨v2, S2, G2, b0, b1, b2, b3⟩ := h G1 w x a2 a3
  ⟨v2, S2, G2, b0, a1.trans b1, b2, b3⟩

theorem results_sound {P : Program} {n : Nat} {G : Ghost} {t : Env} {S : St} {a : Act} {w : World} (hr : Rel G S w) (ht : TR n G t a) : ∀ (l : List ResultVar) (K : List AV → Prop), vres P l t S K →
    ∃ (xs : List Value) (vs : List AV), (l.mapM fun r => (match r with | .tmp t => pure (a.tmps.getD t undef) | .cell ad ty => do loadVar ty (← asAddr (a.tmps.getD ad undef)) : Sem Value)).run P w = .ok xs w ∧ K vs ∧
      xs.length = vs.length ∧ ∀ i (h : i < vs.length) (h' : i < xs.length), VR G vs[i] xs[i]
  | [], K, h => ⟨[], [], by simp, h, rfl, fun i h => by simp at h⟩
  | .tmp k :: rest, K, h => by
    obtain ⟨xs, vs, h1, h2, h3, h4⟩ := results_sound hr ht rest _ h
    refine ⟨a.tmps.getD k undef :: xs, t k :: vs, by simp only [List.mapM_cons, Sem.run_bind, Sem.run_pure, Result.andThen_ok, h1], h2, by simp [h3], fun i hi hi' => ?_⟩
    cases i with
    | zero => exact ht.2.2 k
    | succ i => exact h4 i (by simpa using hi) (by simpa using hi')
  | .cell ad ty :: rest, K, h => by
    obtain ⟨v, av, q1, q2, q3⟩ := q_load (P := P) hr (ht.2.2 ad) h
    obtain ⟨xs, vs, h1, h2, h3, h4⟩ := results_sound hr ht rest _ q2
    have hl : ((do loadVar ty (← asAddr (a.tmps.getD ad undef)) : Sem Value)).run P w = .ok v w := by
      have hp := ht.2.2 ad
      simp only [vres, vLoad] at h
      cases hta : t ad <;> rw [hta] at h hp <;> first
        | exact h.elim
        | (generalize a.tmps.getD ad undef = z at hp q1 ⊢
           cases hp
           simpa [Instr.loadAt, Instr.sureAddr, asAddr] using q1)
    refine ⟨v :: xs, av :: vs, by simp only [List.mapM_cons, Sem.run_bind, hl, Result.andThen_ok, h1, Sem.run_pure], h2, by simp [h3], fun i hi hi' => ?_⟩
    cases i with
    | zero => exact q3
    | succ i => exact h4 i (by simpa using hi) (by simpa using hi')

def args (as : List AV) : Env := fun i => as.getD i .junk
def retQ (P : Program) (rs : List ResultVar) (R : AV → St → Prop) : Env → St → Prop := fun t S => vres P rs t S (fun vs => Gives R (vtup vs) S)

theorem clear_sub (S : St) (r : Nat) : (S.clear r).sub S := fun r' k x h => by
  simp only [St.clear] at h
  split at h
  · cases h
  · exact h

theorem enter {P : Program} {f : FuncId} {fn : Func} {c : Code} {as : List AV} {S : St} {R : AV → St → Prop} (hm : P.follows .mixedOrders = true) (hf : P.funcs[f]? = some fn) (hb : fn.body = some c)
    (hok : (callable P f && codeOk fn.ntmps c && decide (as.length ≤ fn.ntmps)) = true)
    (h : ∀ rg, (∀ k, S rg k = none) → vc P fn.ntmps rg c ⟨retQ P fn.results.toList R, fun _ _ _ => False, retQ P fn.results.toList R⟩ (args as) S) : Ctr P f as S R := by
  simp only [Bool.and_eq_true, decide_eq_true_eq] at hok
  obtain ⟨⟨hc, hcode⟩, hlen⟩ := hok
  refine ⟨hc, fun G w vs hr hvs => ?_⟩
  obtain ⟨rg, hrg⟩ := hr.freshRegion
  have ht : TR fn.ntmps G (args as) { tmps := vs ++ Array.replicate (fn.ntmps - vs.size) undef, defers := [] } := by
    refine ⟨rfl, by
      have h0 : vs.size = as.length := hvs.1
      show (vs ++ Array.replicate (fn.ntmps - vs.size) undef).size = fn.ntmps
      simp only [Array.size_append, Array.size_replicate]; omega, fun i => ?_⟩
    unfold args
    rw [Array.getD_eq_getD_getElem?, List.getD_eq_getElem?_getD]
    by_cases hi : i < as.length
    · have hi' : i < vs.size := by have h0 : vs.size = as.length := hvs.1; omega
      rw [Array.getElem?_append_left hi', List.getElem?_eq_getElem hi, Array.getElem?_eq_getElem hi']
      exact hvs.2 i hi hi'
    · rw [List.getElem?_eq_none (by omega)]
      exact .junk _
  refine calls_of_wp hf hb (wp_mono (vc_sound (rg := rg) hm c hcode _ _ S G _ w (h rg hrg) hr ht) (fun e a w' he => ?_))
  have fin : lift fn.ntmps G (retQ P fn.results.toList R) a w' → a.defers = [] ∧ ∃ v, (results fn a.tmps).run P w' = .ok v w' ∧ (∃ v' av S' G', Ending.returned v = .returned v' ∧ R av S' ∧ G.le G' ∧ Rel G' S' w' ∧ VR G' av v') := by
    rintro ⟨t', S', G', hk, hle, hr', ht'⟩
    refine ⟨ht'.1, ?_⟩
    obtain ⟨xs, vs', h1, h2, h3, h4⟩ := results_sound hr' ht' _ _ hk
    have hrun : (results fn a.tmps).run P w' = .ok (if h : xs.length = 1 then xs[0] else .tuple xs.toArray) w' := by
      simp only [results, Array.mapM_eq_mapM_toList, Sem.run_bind, Sem.run_map]
      erw [h1]
      simp
    have hV : VR G' (vtup vs') (if h : xs.length = 1 then xs[0] else .tuple xs.toArray) := by
      by_cases h1 : xs.length = 1
      · rw [dif_pos h1]
        match vs', h3, h4 with
        | [v], _, h4 => exact h4 0 (by simp) (by omega)
        | [], h3, _ => exact absurd h3 (by simp only [List.length_nil]; omega)
        | _ :: _ :: _, h3, _ => exact absurd h3 (by simp only [List.length_cons]; omega)
      · rw [dif_neg h1]
        have : vtup vs' = .tuple vs' := by
          match vs', h3 with
          | [v], h3 => exact absurd h3 (by simp only [List.length_cons, List.length_nil]; omega)
          | [], _ => rfl
          | _ :: _ :: _, _ => rfl
        rw [this]
        exact .tuple _ _ (by simpa using h3) (fun i h h' => by simpa using h4 i h (by simpa using h'))
    obtain ⟨v2, S2, G2, hR, b1, b2, b3⟩ := h2 G' w' _ hr' hV
    exact ⟨_, hrun, _, v2, S2, G2, rfl, hR, hle.trans b1, b2, b3⟩
  cases e with
  | normal => exact fin he
  | ret => exact fin he
  | exit id => obtain ⟨_, _, _, h, _⟩ := he; exact h.elim
  | goto l => exact he.elim
  | panic c => exact he.elim
  | outgrown => exact he.elim
end Go.Gg
