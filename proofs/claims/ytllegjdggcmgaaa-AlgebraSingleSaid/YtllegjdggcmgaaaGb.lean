/- An own logic over the kit's weakest preconditions, part K: one operation of any kind, lists of operations, code; soundness. Conditions: none. -/
import Derived.Test.YtllegjdggcmgaaaGa
import Derived.KernelRfl
/- An own logic over the kit's weakest preconditions, part K: one operation of any kind, lists of operations, code; soundness. Conditions: none. -/
namespace Go.Gg
open Go.RowKit (Below)
/-- The function has a body that is run. -/
def callable (P : Program) (f : FuncId) : Bool := match P.funcs[f]? with
  | some fn => !(fn.name == "runtime.NumGoroutine") && fn.body.isSome
  | none => false
/-- A contract. -/
def Ctr (P : Program) (f : FuncId) (as : List AV) (S : St) (R : AV → St → Prop) : Prop := callable P f = true ∧ ACalls P f as S R
theorem Ctr.mono {P : Program} {f : FuncId} {as : List AV} {S : St} {R R' : AV → St → Prop} (h : Ctr P f as S R) (hr : ∀ v S, R v S → R' v S) : Ctr P f as S R' := ⟨h.1, h.2.mono hr⟩
def loud : Op → Bool
  | .alloc _ | .box .. | .store .. | .makeSlice .. | .buildSlice .. | .makeMap .. | .mapUpdate .. | .insert .. => true
  | .call { callee := .builtin .append, .. } => true
  | .call { callee := .value _, .. } => true
  | _ => false
def vl (P : Program) (rg : Nat) (k : Nat) (o : Op) (e : Operand → AV) (S : St) (K : AV → St → Prop) : Prop :=
  match o with
  | .alloc T => tyok P T = true ∧ ∀ g, K (.ptr rg k g 0 0) (S.set rg k (.arr (zav P T).cells.length [zav P T]) g)
  | .box _ x => ((e x).solid = true ∧ 0 < (e x).cells.length) ∧ ∀ g, K (.ptr rg k g 0 0) (S.set rg k (.arr (e x).cells.length [e x]) g)
  | .store T a x => vStore P T (e a) (e x) S K
  | .makeSlice T l c => vMake P rg k T (e l) (e c) S K
  | .buildSlice T len parts => vBuildSlice P rg k T len (parts.toList.map (·.1)) (parts.toList.map fun p => e p.2) S K
  | .makeMap T r => vMakeMap P rg k T (r.map e) S K
  | .mapUpdate T m i x => vMapUpd P T (e m) (e i) (e x) S K
  | .insert T m i x => vMapUpd P T (e m) (e i) (e x) S K
  | .call { callee := .builtin .append, args := xs, argTypes := ts } => match xs.toList, ts.toList with
    | [b, x], [T, T'] => T = T' ∧ vAppend P rg k T (e b) (e x) S K
    | _, _ => False
  | .call { callee := .value f, args := xs, argTypes := _ } => match e f with
    | .fn (.func g) [] caps => Ctr P g (xs.toList.map e ++ caps) S K
    | _ => False
  | _ => False
theorem vl_sound {P : Program} {n rg k : Nat} {o : Oper} {t : Env} {S : St} {K : AV → St → Prop} (h : vl P rg k o.op (ev t) S K) : SOp P n o t S K := by
  cases ho : o.op with
  | alloc T => rw [ho] at h; exact sop_alloc ho rg k h.1 h.2
  | box T x => rw [ho] at h; exact sop_box ho rg k h.1.1 h.1.2 h.2
  | store T a x => rw [ho] at h; exact sop_store ho h
  | makeSlice T l c => rw [ho] at h; exact sop_make ho rg k h
  | buildSlice T len parts => rw [ho] at h; exact sop_buildSlice ho rg k h
  | makeMap T r => rw [ho] at h; exact sop_makeMap ho rg k h
  | mapUpdate T m i x => rw [ho] at h; exact sop_mapUpd (.inl ho) h
  | insert T m i x => rw [ho] at h; exact sop_mapUpd (.inr ho) h
  | call c =>
    rw [ho] at h
    obtain ⟨callee, xs, ts⟩ := c
    cases callee with
    | invoke r m => exact h.elim
    | builtin b =>
      cases b <;> first | exact h.elim | skip
      simp only [vl] at h
      split at h
      · rename_i b x T T' hx ht
        obtain rfl : xs = #[b, x] := by cases xs; simp_all
        obtain rfl : ts = #[T, T'] := by cases ts; simp_all
        obtain ⟨rfl, h⟩ := h
        exact sop_append ho rg k h
      · exact h.elim
    | value f =>
      simp only [vl] at h
      split at h
      · rename_i g caps hf
        obtain ⟨hc, h⟩ := h
        intro G a w Kc Q hr ht hk
        have hfv := ht.eval f
        rw [hf] at hfv
        generalize hcv : a.eval f = cv at hfv
        cases hfv with
        | fn _ _ _ fs cs q1 q2 q3 q4 =>
        obtain rfl : fs = #[] := Array.eq_empty_of_size_eq_zero (by simpa using q1)
        unfold callable at hc
        cases hfn : P.funcs[g]? with
        | none => simp [hfn] at hc
        | some fn =>
        simp only [hfn, Bool.and_eq_true, Bool.not_eq_true'] at hc
        have hrun : (execOp a.eval o).run P w = .ok (.enter g (xs.map a.eval ++ cs)) w := by
          have hb : fn.body ≠ none := by intro e; simp [e] at hc
          have hnm : fn.name ≠ "runtime.NumGoroutine" := by simpa using hc.1
          simp [execOp, ho, resolve, hcv, Deferred.ofValue, invoke, callFunc, hfn, hnm, hb]
        unfold Oper.wp
        rw [hrun]
        refine (h G w _ hr ⟨by simp; omega, fun i h1 h2 => ?_⟩).mono ?_
        · by_cases hi : i < xs.size
          · have e1 : (xs.toList.map (ev t) ++ caps)[i] = ev t xs[i] := by rw [List.getElem_append_left (by simpa using hi)]; simp
            have e2 : (xs.map a.eval ++ cs)[i] = a.eval xs[i] := by rw [Array.getElem_append_left (by simpa using hi)]; simp
            rw [e1, e2]
            exact ht.eval _
          · simp at h1 h2
            have e1 : (xs.toList.map (ev t) ++ caps)[i]'(by simp; omega) = caps[i - xs.size]'(by omega) := by rw [List.getElem_append_right (by simp; omega)]; simp
            have e2 : (xs.map a.eval ++ cs)[i]'(by simp; omega) = cs[i - xs.size]'(by omega) := by rw [Array.getElem_append_right (by simp; omega)]; simp
            rw [e1, e2]
            exact q4 _ _ _
        · rintro e w' ⟨v, av, S', G', rfl, b1, b2, b3, b4⟩
          exact hk v av S' G' w' b1 b2 b3 b4
      · exact h.elim
  | _ => rw [ho] at h; exact h.elim
/-- One operation of any kind. -/
def vop (P : Program) (rg : Nat) (o : Oper) (t : Env) (S : St) (K : AV → St → Prop) : Prop :=
  bif loud o.op then vl P rg (o.dst.getD 0) o.op (ev t) S K else vq P o.op (ev t) S (fun v => K v S)
theorem vop_sound {P : Program} {n rg : Nat} {o : Oper} {t : Env} {S : St} {K : AV → St → Prop} (h : vop P rg o t S K) : SOp P n o t S K := by
  unfold vop at h
  cases hl : loud o.op with
  | true =>
    rw [hl] at h
    have h' : vl P rg (o.dst.getD 0) o.op (ev t) S K := h
    exact vl_sound h'
  | false =>
    rw [hl] at h
    have h' : vq P o.op (ev t) S (fun v => K v S) := h
    exact (vq_sound h').sop
/-- A list of operations in its order. -/
def vops (P : Program) (rg : Nat) (ops : List Oper) : List Oper → Env → St → (Env → St → Prop) → Prop
  | [], t, S, K => K t S
  | o :: rest, t, S, K => match o.guard with
    | none => vop P rg o t S (fun v S' => vops P rg ops rest (updo t o.dst v) S' K)
    | some (j, want) => match (ops[j]?).bind (·.dst) with
      | some d => match t d with
        | .bool b => (b = want → vop P rg o (upd t d (.bool want)) S (fun v S' => vops P rg ops rest (updo (upd t d (.bool want)) o.dst v) S' K)) ∧
            (b = !want → vops P rg ops rest (updo (upd t d (.bool !want)) o.dst .junk) S K)
        | _ => False
      | none => False
/-- What is known behind a piece of code, lifted to the concrete side. -/
structure AK where
  nrm : Env → St → Prop
  ex : Nat → Env → St → Prop
  ret : Env → St → Prop
def lift (n : Nat) (G : Ghost) (K : Env → St → Prop) (a : Act) (w : World) : Prop := ∃ t S G', K t S ∧ G.le G' ∧ Rel G' S w ∧ TR n G' t a
def AK.lift (n : Nat) (G : Ghost) (Q : AK) : Exit → Act → World → Prop
  | .normal => Gg.lift n G Q.nrm
  | .exit id => Gg.lift n G (Q.ex id)
  | .ret => Gg.lift n G Q.ret
  | _ => fun _ _ => False
theorem lift_mono {n : Nat} {G G' : Ghost} {K : Env → St → Prop} {a : Act} {w : World} (h : lift n G' K a w) (hg : G.le G') : lift n G K a w :=
  let ⟨t, S, G2, a1, a2, a3, a4⟩ := h; ⟨t, S, G2, a1, hg.trans a2, a3, a4⟩
theorem upd_same {t : Env} {d : Nat} {v : AV} (h : t d = v) : upd t d v = t := by
  funext k
  unfold upd
  split
  · rename_i e; rw [e, h]
  · rfl
theorem yields {n : Nat} {G : Ghost} {t : Env} {a : Act} (h : TR n G t a) {ops : List Oper} {j d : Nat} {b : Bool} (hd : (ops[j]?).bind (·.dst) = some d) (hb : t d = .bool b) :
    yielded ops.toArray a.tmps j = some b := by
  have h1 := h.2.2 d
  rw [hb] at h1
  generalize hv : a.tmps.getD d undef = v at h1
  cases h1
  unfold yielded
  simp only [List.getElem?_toArray, hd]
  rw [Array.getD_eq_getD_getElem?] at hv
  cases hg : a.tmps[d]? with
  | none => rw [hg] at hv; simp [undef] at hv
  | some x => rw [hg] at hv; simp at hv; subst hv; simp only [Option.bind_some, hg]
theorem VR.undef (G : Ghost) : VR G (.tuple []) undef := .tuple [] #[] rfl (fun i h => by simp at h)
theorem yieldsU {n : Nat} {G : Ghost} {t : Env} {a : Act} (h : TR n G t a) {ops : List Oper} {j d : Nat} (hd : (ops[j]?).bind (·.dst) = some d) (hb : t d = .tuple []) : yielded ops.toArray a.tmps j = none := by
  have h1 := h.2.2 d
  rw [hb] at h1
  generalize hv : a.tmps.getD d undef = v at h1
  cases h1 with
  | tuple _ xs q1 _ =>
    unfold yielded
    simp only [List.getElem?_toArray, hd]
    rw [Array.getD_eq_getD_getElem?] at hv
    cases hg : a.tmps[d]? with
    | none => simp [hg]
    | some x => rw [hg] at hv; simp at hv; subst hv; simp [hg]
theorem vops_sound {P : Program} {n rg : Nat} {ops : List Oper} {Q : Exit → Act → World → Prop} : ∀ (l : List Oper) (t : Env) (S : St) (K : Env → St → Prop) (G : Ghost) (a : Act) (w : World),
    (∀ o ∈ l, ∀ d, o.dst = some d → d < n) → vops P rg ops l t S K → Rel G S w → TR n G t a → (∀ a w, lift n G K a w → Q .normal a w) → wpList P ops.toArray Q l a w
  | [], t, S, K, G, a, w, _, h, hr, ht, hQ => hQ a w ⟨t, S, G, h, Ghost.le.refl G, hr, ht⟩
  | o :: rest, t, S, K, G, a, w, hd, h, hr, ht, hQ => by
    have hdo := hd o (by simp)
    have step : ∀ (t' : Env), TR n G t' a → vop P rg o t' S (fun v S' => vops P rg ops rest (updo t' o.dst v) S' K) → o.wp P a w (wpList P ops.toArray Q rest) Q := by
      intro t' ht' hv
      refine vop_sound hv G a w _ Q hr ht' (fun v av S' G' w' hk hle hr' hav => ?_)
      exact vops_sound rest _ S' K G' _ w' (fun o ho => hd o (by simp [ho])) hk hr' ((ht'.mono hle).put hdo hav) (fun a w hl => hQ a w (lift_mono hl hle))
    unfold wpList
    cases hg : o.guard with
    | none =>
      simp only [vops, hg] at h
      rw [if_pos (by simp [Region.wanted, hg])]
      exact .inl (step t ht h)
    | some gw =>
      obtain ⟨j, want⟩ := gw
      simp only [vops, hg] at h
      split at h
      · rename_i d hdj
        split at h
        · rename_i b hb
          have hy := yields ht hdj hb
          obtain ⟨h1, h2⟩ := h
          have hw : Region.wanted o (yielded ops.toArray a.tmps) = (b == want) := by simp only [Region.wanted, hg, hy]; cases b <;> cases want <;> rfl
          by_cases hbw : b = want
          · rw [if_pos (by rw [hw]; simp [hbw])]
            have e : upd t d (.bool want) = t := upd_same (by rw [hb, hbw])
            have := h1 hbw
            rw [e] at this
            exact .inl (step t ht this)
          · rw [if_neg (by rw [hw]; simp [hbw])]
            have hbn : b = !want := by cases b <;> cases want <;> simp_all
            have e : upd t d (.bool !want) = t := upd_same (by rw [hb, hbn])
            have := h2 hbn
            rw [e] at this
            exact vops_sound rest _ S K G _ w (fun o ho => hd o (by simp [ho])) this hr (ht.put hdo (.junk _)) hQ
        · exact h.elim
      · exact h.elim
/-! ### Weakening: a piece of what is known is forgotten or seen otherwise -/
def EWk (t : Env) (S : St) (t' : Env) (S' : St) : Prop := ∀ (n : Nat) (G : Ghost) (a : Act) (w : World), Rel G S w → TR n G t a → ∃ G', G.le G' ∧ Rel G' S' w ∧ TR n G' t' a
theorem EWk.refl (t : Env) (S : St) : EWk t S t S := fun _ G _ _ hr ht => ⟨G, Ghost.le.refl G, hr, ht⟩
theorem EWk.trans {t t' t'' : Env} {S S' S'' : St} (h : EWk t S t' S') (h' : EWk t' S' t'' S'') : EWk t S t'' S'' := fun n G a w hr ht =>
  let ⟨G1, a1, a2, a3⟩ := h n G a w hr ht
  let ⟨G2, b1, b2, b3⟩ := h' n G1 a w a2 a3
  ⟨G2, a1.trans b1, b2, b3⟩
/-- Known, once something is forgotten or seen otherwise. -/
def Later (K : Env → St → Prop) (t : Env) (S : St) : Prop := ∀ (n : Nat) (G : Ghost) (a : Act) (w : World), Rel G S w → TR n G t a → lift n G K a w
theorem Later.now {K : Env → St → Prop} {t : Env} {S : St} (h : K t S) : Later K t S := fun _ G _ _ hr ht => ⟨t, S, G, h, Ghost.le.refl G, hr, ht⟩
theorem Later.wk {K : Env → St → Prop} {t t' : Env} {S S' : St} (hw : EWk t S t' S') (h : Later K t' S') : Later K t S := fun n G a w hr ht =>
  let ⟨G1, a1, a2, a3⟩ := hw n G a w hr ht
  lift_mono (h n G1 a w a2 a3) a1
theorem lift_later {n : Nat} {G : Ghost} {K : Env → St → Prop} {a : Act} {w : World} (h : lift n G (Later K) a w) : lift n G K a w := by
  obtain ⟨t, S, G1, hl, a1, a2, a3⟩ := h
  exact lift_mono (hl n G1 a w a2 a3) a1
/-! ### Code -/
/-- A region that draws its order: whatever it comes to. -/
def vdr (P : Program) (n : Nat) (ops : Array Oper) (K : Env → St → Prop) (t : Env) (S : St) : Prop :=
  ∀ (G : Ghost) (a : Act) (w : World) (Q : Exit → Act → World → Prop), Rel G S w → TR n G t a → (∀ a w, lift n G K a w → Q .normal a w) →
    wpAny P .any ops Q ops.size (Array.replicate ops.size false) a w
def vc (P : Program) (n rg : Nat) : Code → AK → Env → St → Prop
  | .skip, Q, t, S => Q.nrm t S
  | .region _ ops draw, Q, t, S => bif draw then vdr P n ops Q.nrm t S else vops P rg ops.toList ops.toList t S Q.nrm
  | .seq a b, Q, t, S => ∃ R : Env → St → Prop, vc P n rg a { Q with nrm := R } t S ∧ ∀ t S, R t S → Later (vc P n rg b Q) t S
  | .cond c a b, Q, t, S => match ev t c with
    | .bool v => (v = true → vc P n rg a Q t S) ∧ (v = false → vc P n rg b Q t S)
    | _ => False
  | .block id c, Q, t, S => vc P n rg c { Q with ex := fun i t S => if i = id then Q.nrm t S else Q.ex i t S } t S
  | .loop c, Q, t, S => ∃ (I : Env → St → Prop) (μ : Env → St → Nat), I t S ∧ ∀ t S, I t S → vc P n rg c { Q with nrm := fun t' S' => I t' S' ∧ μ t' S' < μ t S } t S
  | .exit id, Q, t, S => Q.ex id t S
  | .ret, Q, t, S => Q.ret t S
  | _, _, _, _ => False
theorem wp_loop_by {P : Program} {c : Code} {Q : Exit → Act → World → Prop} {α : Type} (I : α → Act → World → Prop) (μ : α → Nat) {a : Act} {w : World} {x : α} (h₀ : I x a w)
    (round : ∀ x a w, I x a w → c.wp P (Exit.then (fun a' w' => ∃ x', I x' a' w' ∧ μ x' < μ x) Q) a w) : (Code.loop c).wp P Q a w := by
  intro b k cs
  have key : ∀ n x a w, μ x = n → I x a w →
      ∃ e a' w', Q e a' w' ∧ Arrives P (lone (b.at a (.code c :: .inLoop c :: k)) cs w) b k cs e a' w' := by
    intro n
    induction n using Nat.strongRecOn with
    | _ n ih =>
      intro x a w hn hI
      obtain ⟨e, a₁, w₁, hq, harr⟩ := round x a w hI b (.inLoop c :: k) cs
      cases e with
      | normal =>
        obtain ⟨x', hI₁, hlt⟩ := hq
        obtain ⟨e₂, a₂, w₂, hq₂, harr₂⟩ := ih (μ x') (hn ▸ hlt) x' a₁ w₁ rfl hI₁
        exact ⟨e₂, a₂, w₂, hq₂, .of_steps (Steps.trans harr (.one step_inLoop)) harr₂⟩
      | exit id => exact ⟨_, a₁, w₁, hq, .pass (x := .inLoop c) rfl (fun _ _ => .inl (by simp)) harr⟩
      | goto l => exact ⟨_, a₁, w₁, hq, .pass (x := .inLoop c) rfl (fun _ _ => .inl (by simp)) harr⟩
      | ret => exact ⟨_, a₁, w₁, hq, .pass (x := .inLoop c) rfl (fun _ _ => .inl (by simp)) harr⟩
      | panic ch => exact ⟨_, a₁, w₁, hq, .pass (x := .inLoop c) rfl (fun _ _ => .inl (by simp)) harr⟩
      | outgrown => exact ⟨_, a₁, w₁, hq, .pass (x := .inLoop c) rfl (fun _ _ => .inl (by simp)) harr⟩
  obtain ⟨e, a', w', hq, harr⟩ := key _ x a w rfl h₀
  exact ⟨e, a', w', hq, .of_steps (.one step_loop) harr⟩
def codeOk (n : Nat) : Code → Bool
  | .region _ ops _ => ops.all fun o => match o.dst with | some d => decide (d < n) | none => true
  | .seq a b => codeOk n a && codeOk n b
  | .cond _ a b => codeOk n a && codeOk n b
  | .block _ c => codeOk n c
  | .loop c => codeOk n c
  | _ => true
theorem vc_sound {P : Program} {n rg : Nat} (hm : P.follows .mixedOrders = true) : ∀ (c : Code), codeOk n c = true → ∀ (Q : AK) (t : Env) (S : St) (G : Ghost) (a : Act) (w : World),
    vc P n rg c Q t S → Rel G S w → TR n G t a → c.wp P (Q.lift n G) a w
  | .skip, _, Q, t, S, G, a, w, h, hr, ht => wp_skip ⟨t, S, G, h, Ghost.le.refl G, hr, ht⟩
  | .region id ops false, hok, Q, t, S, G, a, w, h, hr, ht => by
    refine wp_region_list ?_
    have hd : ∀ o ∈ ops.toList, ∀ d, o.dst = some d → d < n := fun o ho d hd => by
      have := Array.all_eq_true_iff_forall_mem.1 hok o (by simpa using ho)
      simpa [hd] using this
    have := vops_sound (P := P) (ops := ops.toList) (Q := Q.lift n G) ops.toList t S Q.nrm G a w hd h hr ht (fun a w hl => hl)
    simpa using this
  | .region id ops true, hok, Q, t, S, G, a, w, h, hr, ht =>
    wp_region_any hm (h G a _ (Q.lift n G) (hr.drawn _) ht (fun a w hl => hl))
  | .seq x y, hok, Q, t, S, G, a, w, h, hr, ht => by
    simp only [codeOk, Bool.and_eq_true] at hok
    obtain ⟨R, h1, h2⟩ := h
    refine wp_seq (wp_mono (vc_sound hm x hok.1 _ t S G a w h1 hr ht) (fun e a w he => ?_))
    cases e with
    | normal =>
      obtain ⟨t', S', G', r, le, hr', ht'⟩ := he
      obtain ⟨t2, S2, G2, r2, le2, hr2, ht2⟩ := lift_later (n := n) (G := G') (a := a) (w := w) ⟨t', S', G', h2 _ _ r, Ghost.le.refl _, hr', ht'⟩
      refine wp_mono (vc_sound hm y hok.2 Q t2 S2 G2 a w r2 hr2 ht2) (fun e a w he => ?_)
      have hle := le.trans le2
      cases e <;> first | exact lift_mono he hle | exact he
    | exit id => exact he
    | ret => exact he
    | goto l => exact he
    | panic c => exact he
    | outgrown => exact he
  | .cond c x y, hok, Q, t, S, G, a, w, h, hr, ht => by
    simp only [codeOk, Bool.and_eq_true] at hok
    simp only [vc] at h
    split at h
    · rename_i v hc
      have hcv := ht.eval c
      rw [hc] at hcv
      generalize he : a.eval c = cv at hcv
      cases hcv
      exact wp_cond_split he (fun hv => vc_sound hm x hok.1 Q t S G a w (h.1 hv) hr ht) (fun hv => vc_sound hm y hok.2 Q t S G a w (h.2 hv) hr ht)
    · exact h.elim
  | .block id c, hok, Q, t, S, G, a, w, h, hr, ht => by
    refine wp_block (wp_mono (vc_sound hm c hok _ t S G a w h hr ht) (fun e a w he => ?_))
    cases e with
    | exit id' =>
      simp only [Exit.inBlock]
      obtain ⟨t', S', G', r, le, hr', ht'⟩ := he
      simp only at r
      split
      · rename_i hid; rw [if_pos hid] at r; exact ⟨t', S', G', r, le, hr', ht'⟩
      · rename_i hid; rw [if_neg hid] at r; exact ⟨t', S', G', r, le, hr', ht'⟩
    | normal => exact he
    | ret => exact he
    | goto l => exact he
    | panic c => exact he
    | outgrown => exact he
  | .loop c, hok, Q, t, S, G, a, w, h, hr, ht => by
    obtain ⟨I, μ, h0, hround⟩ := h
    refine wp_loop_by (α := Env × St × Ghost) (fun x a w => I x.1 x.2.1 ∧ G.le x.2.2 ∧ Rel x.2.2 x.2.1 w ∧ TR n x.2.2 x.1 a) (fun x => μ x.1 x.2.1) (x := (t, S, G)) ⟨h0, Ghost.le.refl G, hr, ht⟩ ?_
    rintro ⟨t, S, G'⟩ a w ⟨hI, hle, hr, ht⟩
    refine wp_mono (vc_sound hm c hok _ t S G' a w (hround t S hI) hr ht) (fun e a w he => ?_)
    cases e with
    | normal =>
      obtain ⟨t', S', G2, ⟨r1, r2⟩, le, hr', ht'⟩ := he
      exact ⟨(t', S', G2), ⟨r1, hle.trans le, hr', ht'⟩, r2⟩
    | exit id => exact lift_mono he hle
    | ret => exact lift_mono he hle
    | goto l => exact he
    | panic c => exact he
    | outgrown => exact he
  | .exit id, _, Q, t, S, G, a, w, h, hr, ht => wp_exit ⟨t, S, G, h, Ghost.le.refl G, hr, ht⟩
  | .ret, _, Q, t, S, G, a, w, h, hr, ht => wp_ret ⟨t, S, G, h, Ghost.le.refl G, hr, ht⟩
  | .rangeFunc .., _, _, _, _, _, _, _, h, _, _ => h.elim
  | .scope .., _, _, _, _, _, _, _, h, _, _ => h.elim
  | .label .., _, _, _, _, _, _, _, h, _, _ => h.elim
  | .goto .., _, _, _, _, _, _, _, h, _, _ => h.elim
  | .refuse .., _, _, _, _, _, _, _, h, _, _ => h.elim
/-! ### Entering a function -/
def vres (P : Program) : List ResultVar → Env → St → (List AV → Prop) → Prop
  | [], _, _, K => K []
  | .tmp k :: rest, t, S, K => vres P rest t S (fun vs => K (t k :: vs))
  | .cell a T :: rest, t, S, K => vLoad P T (t a) S (fun v => vres P rest t S (fun vs => K (v :: vs)))
def vtup : List AV → AV | [v] => v | vs => .tuple vs
/-- What is known of a value may be forgotten, or seen otherwise. -/
def Wk (v : AV) (S : St) (v' : AV) (S' : St) : Prop := ∀ (G : Ghost) (w : World) (x : Value), Rel G S w → VR G v x → ∃ G', G.le G' ∧ Rel G' S' w ∧ VR G' v' x
theorem Wk.refl (v : AV) (S : St) : Wk v S v S := fun G _ _ hr hv => ⟨G, Ghost.le.refl G, hr, hv⟩
theorem Wk.trans {v v' v'' : AV} {S S' S'' : St} (h : Wk v S v' S') (h' : Wk v' S' v'' S'') : Wk v S v'' S'' := fun G w x hr hv =>
  let ⟨G1, a1, a2, a3⟩ := h G w x hr hv
  let ⟨G2, b1, b2, b3⟩ := h' G1 w x a2 a3
  ⟨G2, a1.trans b1, b2, b3⟩
theorem Wk.sub {v : AV} {S S' : St} (h : S'.sub S) : Wk v S v S' := fun G _ _ hr hv => ⟨G, Ghost.le.refl G, hr.sub h, hv⟩
def Gives (R : AV → St → Prop) (v : AV) (S : St) : Prop := ∀ (G : Ghost) (w : World) (x : Value), Rel G S w → VR G v x → ∃ v' S' G', R v' S' ∧ G.le G' ∧ Rel G' S' w ∧ VR G' v' x
theorem Gives.now {R : AV → St → Prop} {v : AV} {S : St} (h : R v S) : Gives R v S := fun G _ _ hr hv => ⟨v, S, G, h, Ghost.le.refl G, hr, hv⟩
theorem Gives.wk {R : AV → St → Prop} {v v' : AV} {S S' : St} (hw : Wk v S v' S') (h : Gives R v' S') : Gives R v S := fun G w x hr hv =>
  let ⟨G1, a1, a2, a3⟩ := hw G w x hr hv
  let ⟨v2, S2, G2, b0, b1, b2, b3⟩ := h G1 w x a2 a3
  ⟨v2, S2, G2, b0, a1.trans b1, b2, b3⟩
theorem results_sound {P : Program} {n : Nat} {G : Ghost} {t : Env} {S : St} {a : Act} {w : World} (hr : Rel G S w) (ht : TR n G t a) : ∀ (l : List ResultVar) (K : List AV → Prop), vres P l t S K →
    ∃ (xs : List Value) (vs : List AV), (l.mapM fun r => (match r with | .tmp t => pure (a.tmps.getD t undef) | .cell ad ty => do loadVar ty (← asAddr (a.tmps.getD ad undef)) : Sem Value)).run P w = .ok xs w ∧ K vs ∧
      xs.length = vs.length ∧ ∀ i (h : i < vs.length) (h' : i < xs.length), VR G vs[i] xs[i]
  | [], K, h => ⟨[], [], by simp, h, rfl, fun i h => by simp at h⟩
  | .tmp k :: rest, K, h => by
    obtain ⟨xs, vs, h1, h2, h3, h4⟩ := results_sound hr ht rest _ h
    refine ⟨a.tmps.getD k undef :: xs, t k :: vs, by simp only [List.mapM_cons, Sem.run_bind, Sem.run_pure, Result.andThen_ok, h1], h2, by simp [h3], fun i hi hi' => ?_⟩
    cases i with
    | zero => exact ht.2.2 k
    | succ i => exact h4 i (by simpa using hi) (by simpa using hi')
  | .cell ad ty :: rest, K, h => by
    obtain ⟨v, av, q1, q2, q3⟩ := q_load (P := P) hr (ht.2.2 ad) h
    obtain ⟨xs, vs, h1, h2, h3, h4⟩ := results_sound hr ht rest _ q2
    have hl : ((do loadVar ty (← asAddr (a.tmps.getD ad undef)) : Sem Value)).run P w = .ok v w := by
      have hp := ht.2.2 ad
      simp only [vres, vLoad] at h
      cases hta : t ad <;> rw [hta] at h hp <;> first
        | exact h.elim
        | (generalize a.tmps.getD ad undef = z at hp q1 ⊢
           cases hp
           simpa [Instr.loadAt, Instr.sureAddr, asAddr] using q1)
    refine ⟨v :: xs, av :: vs, by simp only [List.mapM_cons, Sem.run_bind, hl, Result.andThen_ok, h1, Sem.run_pure], h2, by simp [h3], fun i hi hi' => ?_⟩
    cases i with
    | zero => exact q3
    | succ i => exact h4 i (by simpa using hi) (by simpa using hi')
def args (as : List AV) : Env := fun i => as.getD i .junk
def retQ (P : Program) (rs : List ResultVar) (R : AV → St → Prop) : Env → St → Prop := fun t S => vres P rs t S (fun vs => Gives R (vtup vs) S)
theorem clear_sub (S : St) (r : Nat) : (S.clear r).sub S := fun r' k x h => by
  simp only [St.clear] at h
  split at h
  · cases h
  · exact h
theorem enter {P : Program} {f : FuncId} {fn : Func} {c : Code} {as : List AV} {S : St} {R : AV → St → Prop} (hm : P.follows .mixedOrders = true) (hf : P.funcs[f]? = some fn) (hb : fn.body = some c)
    (hok : (callable P f && codeOk fn.ntmps c && decide (as.length ≤ fn.ntmps)) = true)
    (h : ∀ rg, (∀ k, S rg k = none) → vc P fn.ntmps rg c ⟨retQ P fn.results.toList R, fun _ _ _ => False, retQ P fn.results.toList R⟩ (args as) S) : Ctr P f as S R := by
  simp only [Bool.and_eq_true, decide_eq_true_eq] at hok
  obtain ⟨⟨hc, hcode⟩, hlen⟩ := hok
  refine ⟨hc, fun G w vs hr hvs => ?_⟩
  obtain ⟨rg, hrg⟩ := hr.freshRegion
  have ht : TR fn.ntmps G (args as) { tmps := vs ++ Array.replicate (fn.ntmps - vs.size) undef, defers := [] } := by
    refine ⟨rfl, by
      have h0 : vs.size = as.length := hvs.1
      show (vs ++ Array.replicate (fn.ntmps - vs.size) undef).size = fn.ntmps
      simp only [Array.size_append, Array.size_replicate]; omega, fun i => ?_⟩
    unfold args
    rw [Array.getD_eq_getD_getElem?, List.getD_eq_getElem?_getD]
    by_cases hi : i < as.length
    · have hi' : i < vs.size := by have h0 : vs.size = as.length := hvs.1; omega
      rw [Array.getElem?_append_left hi', List.getElem?_eq_getElem hi, Array.getElem?_eq_getElem hi']
      exact hvs.2 i hi hi'
    · rw [List.getElem?_eq_none (by omega)]
      exact .junk _
  refine calls_of_wp hf hb (wp_mono (vc_sound (rg := rg) hm c hcode _ _ S G _ w (h rg hrg) hr ht) (fun e a w' he => ?_))
  have fin : lift fn.ntmps G (retQ P fn.results.toList R) a w' → a.defers = [] ∧ ∃ v, (results fn a.tmps).run P w' = .ok v w' ∧ (∃ v' av S' G', Ending.returned v = .returned v' ∧ R av S' ∧ G.le G' ∧ Rel G' S' w' ∧ VR G' av v') := by
    rintro ⟨t', S', G', hk, hle, hr', ht'⟩
    refine ⟨ht'.1, ?_⟩
    obtain ⟨xs, vs', h1, h2, h3, h4⟩ := results_sound hr' ht' _ _ hk
    have hrun : (results fn a.tmps).run P w' = .ok (if h : xs.length = 1 then xs[0] else .tuple xs.toArray) w' := by
      simp only [results, Array.mapM_eq_mapM_toList, Sem.run_bind, Sem.run_map]
      erw [h1]
      simp
    have hV : VR G' (vtup vs') (if h : xs.length = 1 then xs[0] else .tuple xs.toArray) := by
      by_cases h1 : xs.length = 1
      · rw [dif_pos h1]
        match vs', h3, h4 with
        | [v], _, h4 => exact h4 0 (by simp) (by omega)
        | [], h3, _ => exact absurd h3 (by simp only [List.length_nil]; omega)
        | _ :: _ :: _, h3, _ => exact absurd h3 (by simp only [List.length_cons]; omega)
      · rw [dif_neg h1]
        have : vtup vs' = .tuple vs' := by
          match vs', h3 with
          | [v], h3 => exact absurd h3 (by simp only [List.length_cons, List.length_nil]; omega)
          | [], _ => rfl
          | _ :: _ :: _, _ => rfl
        rw [this]
        exact .tuple _ _ (by simpa using h3) (fun i h h' => by simpa using h4 i h (by simpa using h'))
    obtain ⟨v2, S2, G2, hR, b1, b2, b3⟩ := h2 G' w' _ hr' hV
    exact ⟨_, hrun, _, v2, S2, G2, rfl, hR, hle.trans b1, b2, b3⟩
  cases e with
  | normal => exact fin he
  | ret => exact fin he
  | exit id => obtain ⟨_, _, _, h, _⟩ := he; exact h.elim
  | goto l => exact he.elim
  | panic c => exact he.elim
  | outgrown => exact he.elim
end Go.Gg
namespace Go.Gg
/-- One operation, its parts given. -/
def vo (P : Program) (rg : Nat) (d : Option Nat) (op : Op) (t : Env) (S : St) (K : AV → St → Prop) : Prop :=
  bif loud op then vl P rg (d.getD 0) op (ev t) S K else vq P op (ev t) S (fun v => K v S)
section
variable {P : Program} {n rg : Nat} {d : Option Nat} {t : Env} {S : St} {K : AV → St → Prop} {ty : TypeId} {pos : String} {after : Array Edge} {Q : AK} {KE : Env → St → Prop}
@[go_sem ↓] theorem vc_skip : vc P n rg .skip Q t S = Q.nrm t S := rfl
@[go_sem ↓] theorem vc_region {id : Nat} {l : List Oper} : vc P n rg (.region id l.toArray false) Q t S = vops P rg l l t S Q.nrm := rfl
@[go_sem ↓] theorem vc_drawn {id : Nat} {ops : Array Oper} : vc P n rg (.region id ops true) Q t S = vdr P n ops Q.nrm t S := rfl
@[go_sem ↓] theorem vc_cond {c : Operand} {a b : Code} : vc P n rg (.cond c a b) Q t S = (match ev t c with
    | .bool v => (v = true → vc P n rg a Q t S) ∧ (v = false → vc P n rg b Q t S)
    | _ => False) := rfl
@[go_sem ↓] theorem vc_block {id : Nat} {c : Code} : vc P n rg (.block id c) Q t S = vc P n rg c { Q with ex := fun i t S => if i = id then Q.nrm t S else Q.ex i t S } t S := rfl
@[go_sem ↓] theorem vc_exit {id : Nat} : vc P n rg (.exit id) Q t S = Q.ex id t S := rfl
@[go_sem ↓] theorem vc_ret : vc P n rg .ret Q t S = Q.ret t S := rfl
@[congr] theorem gives_congr {R : AV → St → Prop} {v v' : AV} {S S' : St} (hv : v = v') (hS : S = S') : Gives R v S = Gives R v' S' := by rw [hv, hS]
@[congr] theorem later_congr {K : Env → St → Prop} {t : Env} {S : St} : Later K t S = Later K t S := rfl
/-- Once more round. -/
def Again (I : Env → St → Prop) (μ : Env → St → Nat) (m : Nat) (t : Env) (S : St) : Prop := I t S ∧ μ t S < m
@[congr] theorem again_congr {I : Env → St → Prop} {μ : Env → St → Nat} {m : Nat} {t : Env} {S : St} : Again I μ m t S = Again I μ m t S := rfl
@[go_sem ↓] theorem vops_nil {ops : List Oper} : vops P rg ops [] t S KE = KE t S := rfl
@[go_sem ↓] theorem vops_none {ops rest : List Oper} {op : Op} : vops P rg ops (⟨d, op, ty, pos, after, none⟩ :: rest) t S KE = vo P rg d op t S (fun v S' => vops P rg ops rest (updo t d v) S' KE) := rfl
@[go_sem ↓] theorem vops_some {ops rest : List Oper} {op : Op} {j : Nat} {want : Bool} : vops P rg ops (⟨d, op, ty, pos, after, some (j, want)⟩ :: rest) t S KE = (match (ops[j]?).bind (·.dst) with
      | some g => match t g with
         | .bool b => (b = want → vo P rg d op (upd t g (.bool want)) S (fun v S' => vops P rg ops rest (updo (upd t g (.bool want)) d v) S' KE)) ∧
            (b = !want → vops P rg ops rest (updo (upd t g (.bool !want)) d .junk) S KE)
         | _ => False
      | none => False) := rfl
@[go_sem] theorem updo_some {k : Nat} {v : AV} : updo t (some k) v = upd t k v := rfl
@[go_sem] theorem updo_none {v : AV} : updo t none v = t := rfl
@[go_sem] theorem upd_at {k k' : Nat} {v : AV} : upd t k v k' = if k' = k then v else t k' := rfl
@[go_sem] theorem ev_tmp {k : Nat} : ev t (.tmp k) = t k := rfl
@[go_sem] theorem ev_const {v : Value} : ev t (.const v) = ofConst v := rfl
@[go_sem] theorem ev_func {f : FuncId} : ev t (.func f) = .fn (.func f) [] [] := rfl
@[go_sem] theorem ofConst_int {k : IntKind} {m : Int} : ofConst (.int k m) = .int k m := rfl
@[go_sem] theorem ofConst_bool {b : Bool} : ofConst (.bool b) = .bool b := rfl
@[go_sem] theorem ofConst_string {s : ByteArray} : ofConst (.string s) = .str s := rfl
@[go_sem] theorem ofConst_nilp : ofConst (.pointer none) = .nilp := rfl
@[go_sem] theorem ofConst_nil : ofConst (.slice none 0 0) = .nil := rfl
@[go_sem] theorem ofConst_nilmap : ofConst (.map none) = .nilmap := rfl
@[go_sem] theorem ofConst_nilf : ofConst .nilFunc = .nilf := rfl
@[go_sem] theorem ofConst_niface : ofConst .nilIface = .niface := rfl
@[go_sem] theorem ofConst_iface {T : TypeId} {k : IntKind} {m : Int} : ofConst (.iface T (.int k m)) = .iface T (.int k m) := rfl
@[go_sem ↓] theorem vo_move {x : Operand} : vo P rg d (.move x) t S K = K (ev t x) S := rfl
@[go_sem ↓] theorem vo_assign {x : Operand} : vo P rg d (.assign x) t S K = K (ev t x) S := rfl
@[go_sem ↓] theorem vo_pick {c a b : Operand} : vo P rg d (.pick c a b) t S K = (match ev t c with | .bool v => K (bif v then ev t a else ev t b) S | _ => False) := rfl
@[go_sem ↓] theorem vo_bin {op : BinOp} {T T' : TypeId} {x y : Operand} : vo P rg d (.binOp op T x y T') t S K = vBin P op T x y (ev t x) (ev t y) (fun v => K v S) := rfl
@[go_sem ↓] theorem vo_un {op : UnOp} {T : TypeId} {x : Operand} : vo P rg d (.unOp op T x) t S K = vUn op (ev t x) (fun v => K v S) := rfl
@[go_sem ↓] theorem vo_conv {s T : TypeId} {x : Operand} : vo P rg d (.convert s T x) t S K = (match ev t x, td P T, td P s with | .int _ m, .int k, .int _ => K (.int k (k.wrap m)) S | _, _, _ => False) := by
  unfold vo vq; rfl
@[go_sem ↓] theorem vo_iface {T : TypeId} {x : Operand} : vo P rg d (.makeInterface T x) t S K = ((match td P T with | .iface | .other => False | _ => True) ∧ K (.iface T (ev t x)) S) := rfl
@[go_sem ↓] theorem vo_func {fn : Fn} {a b : List Operand} : vo P rg d (.makeFunc fn a.toArray b.toArray) t S K = K (.fn fn (a.map (ev t)) (b.map (ev t))) S := rfl
@[go_sem ↓] theorem vo_build {T : TypeId} {parts : List (Nat × Operand)} : vo P rg d (.build T parts.toArray) t S K = vBuild P T (parts.map fun p => (p.1, ev t p.2)) (fun v => K v S) := rfl
@[go_sem ↓] theorem vo_load {T : TypeId} {x : Operand} : vo P rg d (.load T x) t S K = vLoad P T (ev t x) S (fun v => K v S) := rfl
@[go_sem ↓] theorem vo_nilCheck {x : Operand} : vo P rg d (.nilCheck x) t S K = ((match ev t x with | .ptr .. | .iptr _ => True | .fn (.func _) _ _ => True | _ => False) ∧ K (ev t x) S) := rfl
@[go_sem ↓] theorem vo_fieldAddr {T f : Nat} {x : Operand} : vo P rg d (.fieldAddr T x f) t S K = vFieldAddr P T f (ev t x) (fun v => K v S) := rfl
@[go_sem ↓] theorem vo_field {T f : Nat} {x : Operand} : vo P rg d (.field T x f) t S K = vField P T f (ev t x) (fun v => K v S) := rfl
@[go_sem ↓] theorem vo_indexAddr {T : TypeId} {x i : Operand} : vo P rg d (.indexAddr T x i) t S K = vIdxAddr P T (ev t x) (ev t i) (fun v => K v S) := rfl
@[go_sem ↓] theorem vo_index {T : TypeId} {x i : Operand} : vo P rg d (.index T x i) t S K = vIndex P T (ev t x) (ev t i) (fun v => K v S) := rfl
@[go_sem ↓] theorem vo_slice {T : TypeId} {x : Operand} {lo hi mx : Option Operand} : vo P rg d (.slice T x lo hi mx) t S K = vSlice P T (ev t x) (lo.map (ev t)) (hi.map (ev t)) (mx.map (ev t)) (fun v => K v S) := rfl
@[go_sem ↓] theorem vo_extract {x : Operand} {i : Nat} : vo P rg d (.extract x i) t S K = (match ev t x with | .tuple vs => i < vs.length ∧ K (vs.getD i .junk) S | _ => False) := rfl
@[go_sem ↓] theorem vo_assert {x : Operand} {a T : TypeId} {ok : Bool} : vo P rg d (.typeAssert x a T ok) t S K = vAssert P T ok (ev t x) (fun v => K v S) := rfl
@[go_sem ↓] theorem vo_len {x : Operand} {T : TypeId} : vo P rg d (.call { callee := .builtin .len, args := #[x], argTypes := #[T] }) t S K = vLenS P T (ev t x) S (fun v => K v S) := rfl
@[go_sem ↓] theorem vo_lookup {T : TypeId} {x i : Operand} {ok : Bool} : vo P rg d (.lookup T x i ok) t S K = vLookup P T ok (ev t x) (ev t i) S (fun v => K v S) := rfl
@[go_sem ↓] theorem vo_makeMap {T : TypeId} {r : Option Operand} : vo P rg d (.makeMap T r) t S K = vMakeMap P rg (d.getD 0) T (r.map (ev t)) S K := rfl
@[go_sem ↓] theorem vo_mapUpd {T : TypeId} {m i x : Operand} : vo P rg d (.mapUpdate T m i x) t S K = vMapUpd P T (ev t m) (ev t i) (ev t x) S K := rfl
@[go_sem ↓] theorem vo_insert {T : TypeId} {m i x : Operand} : vo P rg d (.insert T m i x) t S K = vMapUpd P T (ev t m) (ev t i) (ev t x) S K := rfl
@[go_sem ↓] theorem vo_max {x y : Operand} {ts : Array TypeId} : vo P rg d (.call { callee := .builtin .max, args := #[x, y], argTypes := ts }) t S K =
    (match ev t x, ev t y with | .int k m, .int _ n => K (.int k (if m < n then n else m)) S | _, _ => False) := by unfold vo vq; rfl
@[go_sem ↓] theorem vo_min {x y : Operand} {ts : Array TypeId} : vo P rg d (.call { callee := .builtin .min, args := #[x, y], argTypes := ts }) t S K =
    (match ev t x, ev t y with | .int k m, .int _ n => K (.int k (if n < m then n else m)) S | _, _ => False) := by unfold vo vq; rfl
@[go_sem ↓] theorem vo_alloc {T : TypeId} : vo P rg d (.alloc T) t S K = (tyok P T = true ∧ ∀ g, K (.ptr rg (d.getD 0) g 0 0) (S.set rg (d.getD 0) (.arr (zav P T).cells.length [zav P T]) g)) := rfl
@[go_sem ↓] theorem vo_box {T : TypeId} {x : Operand} : vo P rg d (.box T x) t S K = (((ev t x).solid = true ∧ 0 < (ev t x).cells.length) ∧ ∀ g, K (.ptr rg (d.getD 0) g 0 0) (S.set rg (d.getD 0) (.arr (ev t x).cells.length [ev t x]) g)) := rfl
@[go_sem ↓] theorem vo_store {T : TypeId} {a x : Operand} : vo P rg d (.store T a x) t S K = vStore P T (ev t a) (ev t x) S K := rfl
@[go_sem ↓] theorem vo_make {T : TypeId} {l c : Operand} : vo P rg d (.makeSlice T l c) t S K = vMake P rg (d.getD 0) T (ev t l) (ev t c) S K := rfl
@[go_sem ↓] theorem vo_buildSlice {T : TypeId} {len : Nat} {parts : List (Nat × Operand)} : vo P rg d (.buildSlice T len parts.toArray) t S K = vBuildSlice P rg (d.getD 0) T len (parts.map (·.1)) (parts.map fun p => ev t p.2) S K := rfl
@[go_sem ↓] theorem vo_append {T : TypeId} {b x : Operand} : vo P rg d (.call { callee := .builtin .append, args := #[b, x], argTypes := #[T, T] }) t S K = vAppend P rg (d.getD 0) T (ev t b) (ev t x) S K := by
  have : vo P rg d (.call { callee := .builtin .append, args := #[b, x], argTypes := #[T, T] }) t S K = (T = T ∧ vAppend P rg (d.getD 0) T (ev t b) (ev t x) S K) := rfl
  rw [this]; simp
@[go_sem ↓] theorem vo_call {f : Operand} {xs : List Operand} {ts : Array TypeId} : vo P rg d (.call { callee := .value f, args := xs.toArray, argTypes := ts }) t S K =
    (match ev t f with | .fn (.func g) [] caps => Ctr P g (xs.map (ev t) ++ caps) S K | _ => False) := rfl
@[go_sem] theorem set_at {r k r' k' g : Nat} {o : GObj} : St.set S r k o g r' k' = if r' = r ∧ k' = k then some (o, g) else S r' k' := rfl
@[go_sem] theorem clear_set {r k g : Nat} {o : GObj} : (St.set S r k o g).clear r = S.clear r := by
  funext r' k'
  simp only [St.clear, St.set]
  split
  · rfl
  · rename_i h; rw [if_neg (fun hc => h hc.1)]
@[go_sem] theorem set_set {r k g g' : Nat} {o o' : GObj} : (St.set S r k o g).set r k o' g' = S.set r k o' g' := by
  funext a b
  simp only [St.set]
  split <;> rfl
@[go_sem] theorem del_set {r k g : Nat} {o : GObj} : (St.set S r k o g).del r k = S.del r k := by
  funext a b
  simp only [St.set, St.del]
  split <;> rfl
@[go_sem] theorem clear_del {r k : Nat} : (S.del r k).clear r = S.clear r := by
  funext a b
  simp only [St.del, St.clear]
  split
  · rfl
  · rename_i h; rw [if_neg (fun hc => h hc.1)]
theorem clear_self {r : Nat} (h : ∀ k, S r k = none) : S.clear r = S := by
  funext a b
  simp only [St.clear]
  split
  · rename_i e; rw [e, h]
  · rfl
@[go_sem] theorem clear_clear {r : Nat} : (S.clear r).clear r = S.clear r := clear_self (fun k => by simp [St.clear])
@[go_sem] theorem cells_int {k : IntKind} {m : Int} : (AV.int k m).cells = [.int k m] := rfl
@[go_sem] theorem cells_bool {b : Bool} : (AV.bool b).cells = [.bool b] := rfl
@[go_sem] theorem cells_agg {cs : List AV} : (AV.agg cs).cells = cs := rfl
@[go_sem] theorem cells_list {cs : List AV} : (AV.list cs).cells = [.list cs] := rfl
@[go_sem] theorem cells_nil : (AV.nil).cells = [.nil] := rfl
@[go_sem] theorem cells_sl {kk r k g off len : Nat} : (AV.sl kk r k g off len).cells = [.sl kk r k g off len] := rfl
@[go_sem] theorem cells_map {r k g : Nat} : (AV.map r k g).cells = [.map r k g] := rfl
@[go_sem] theorem cells_nilmap : (AV.nilmap).cells = [.nilmap] := rfl
@[go_sem] theorem cells_ptr {r k g i off : Nat} : (AV.ptr r k g i off).cells = [.ptr r k g i off] := rfl
@[go_sem] theorem cells_nilp : (AV.nilp).cells = [.nilp] := rfl
@[go_sem] theorem cells_fn {f : Fn} {a b : List AV} : (AV.fn f a b).cells = [.fn f a b] := rfl
@[go_sem] theorem cells_nilf : (AV.nilf).cells = [.nilf] := rfl
@[go_sem] theorem cells_niface : (AV.niface).cells = [.niface] := rfl
@[go_sem] theorem cells_iface {T : TypeId} {v : AV} : (AV.iface T v).cells = [.iface T v] := rfl
attribute [go_sem ↓] vBits.eq_def vShift.eq_def vBin.eq_def vUn.eq_def vLoad.eq_def vIdxAddr.eq_def vIndex.eq_def vSlice.eq_def vFieldAddr.eq_def vField.eq_def vBuild.eq_def vLenS.eq_def vLen.eq_def vAssert.eq_def vStore.eq_def vMake.eq_def vBuildSlice.eq_def vAppend.eq_def
attribute [go_sem] bnd view ldv isConst stv allOne AV.one AV.solid isAggZ vres vtup retQ
  List.getD_cons_zero List.getD_cons_succ List.length_cons List.length_nil List.map_cons List.map_nil Option.map_some Option.map_none Option.getD_some Option.getD_none List.drop_succ_cons List.drop_zero List.take_succ_cons List.take_zero
  List.cons_append List.nil_append List.append_nil List.all_cons List.all_nil List.foldl_cons List.foldl_nil cond_true cond_false List.getElem?_cons_zero List.getElem?_cons_succ Option.bind_some Option.bind_none List.set_cons_zero List.set_cons_succ List.range_succ List.range_zero beq_self_eq_true List.length_take List.length_drop List.length_append List.length_replicate List.length_set
  eq_self Bool.not_true Bool.not_false Int.toNat_natCast Nat.zero_add Nat.add_zero true_and and_true if_true if_false Bool.and_true Bool.true_and and_self reduceCtorEq false_implies true_implies implies_true List.drop_nil List.take_nil
end
@[go_sem] theorem args_at {as : List AV} {k : Nat} : args as k = as.getD k .junk := rfl
@[go_sem] theorem drop_and {p q : Prop} (h : p) : (p ∧ q) = q := by simp [h]
/-- Integers of one kind as a slice that nobody writes. -/
def intL (k : IntKind) (l : List Int) : List AV := l.map (.int k)
abbrev ints (k : IntKind) (l : List Int) : AV := .list (intL k l)
@[go_sem] theorem intL_len (k : IntKind) (l : List Int) : (intL k l).length = l.length := by simp [intL]
@[go_sem] theorem intL_all (k : IntKind) (l : List Int) (f : AV → Bool) : (intL k l).all f = l.all (fun m => f (.int k m)) := by simp [intL, Function.comp_def]
@[go_sem] theorem all_tt {α : Type} (l : List α) : (l.all fun _ => true) = true := by simp
@[go_sem] theorem intL_take (k : IntKind) (l : List Int) (n : Nat) : (intL k l).take n = intL k (l.take n) := by simp [intL]
@[go_sem] theorem intL_drop (k : IntKind) (l : List Int) (n : Nat) : (intL k l).drop n = intL k (l.drop n) := by simp [intL]
@[go_sem] theorem intL_append (k : IntKind) (l m : List Int) : intL k l ++ intL k m = intL k (l ++ m) := by simp [intL]
@[go_sem] theorem intL_snoc (k : IntKind) (l : List Int) (m : Int) : intL k l ++ [.int k m] = intL k (l ++ [m]) := by simp [intL]
@[go_sem] theorem intL_cons (k : IntKind) (l : List Int) (m : Int) : AV.int k m :: intL k l = intL k (m :: l) := by simp [intL]
@[go_sem] theorem intL_rep (k : IntKind) (n : Nat) (m : Int) : List.replicate n (.int k m) = intL k (List.replicate n m) := by simp [intL]
@[go_sem] theorem intL_set (k : IntKind) (l : List Int) (i : Nat) (m : Int) : (intL k l).set i (.int k m) = intL k (l.set i m) := by simp [intL]
@[go_sem] theorem intL_get (k : IntKind) (l : List Int) (i : Nat) (h : i < l.length) : (intL k l).getD i .junk = .int k (l.getD i 0) := by
  rw [intL, List.getD_eq_getElem?_getD, List.getD_eq_getElem?_getD]; simp [h]
@[go_sem] theorem cast_zero : ((0 : Nat) : Int) = 0 := rfl
@[go_sem] theorem cast_one : ((1 : Nat) : Int) = 1 := rfl
@[go_sem] theorem cast_succ (a : Nat) : ((a + 1 : Nat) : Int) = (a : Int) + 1 := rfl
@[go_sem] theorem toNat_add (a b : Nat) : ((a : Int) + (b : Int)).toNat = a + b := by omega
@[go_sem] theorem toNat_add_one (a : Nat) : ((a : Int) + 1).toNat = a + 1 := by omega
@[go_sem] theorem wrap_u64_id {m : Int} (h0 : 0 ≤ m) (h1 : m ≤ 18446744073709551615) : IntKind.u64.wrap m = m := by simp only [IntKind.wrap, IntKind.bits, IntKind.signed]; simp; omega
@[go_sem] theorem wrap_i64_id {m : Int} (h0 : -9223372036854775808 ≤ m) (h1 : m ≤ 9223372036854775807) : IntKind.i64.wrap m = m := by rw [IntKind.wrap_i64]; omega
@[go_sem] theorem wrap_u32 {m : Int} : IntKind.u32.wrap m = m % 4294967296 := by simp [IntKind.wrap, IntKind.bits, IntKind.signed]
@[go_sem] theorem wrap_u8 {m : Int} : IntKind.u8.wrap m = m % 256 := by simp [IntKind.wrap, IntKind.bits, IntKind.signed]
/-- A fact kept from the arithmetic of a walk. -/
structure Hide (p : Prop) : Prop where
  out : p
/-- A number in an integer. -/
def ix : AV → Nat | .int _ m => m.toNat | _ => 0
@[go_sem] theorem ix_int {k : IntKind} {m : Int} : ix (.int k m) = m.toNat := rfl
end Go.Gg
namespace Go.Gg
open Go.RowKit (Below)
theorem del_sub (S : St) (r k : Nat) : (S.del r k).sub S := fun r' k' x h => by
  simp only [St.del] at h
  split at h
  · cases h
  · exact h
/-- The cells of one object will not be written any more. -/
theorem Rel.freeze {G : Ghost} {S : St} {w : World} (h : Rel G S w) {r k g kk : Nat} {es : List AV} (hS : S r k = some (.arr kk es, g)) :
    ∃ G', G.le G' ∧ Rel G' (S.del r k) w ∧ ∃ L, G.loc r k g = some L ∧ L.k = kk ∧ es.length ≤ L.cap ∧ L.cap ≤ maxLen ∧ (∀ i (h : i < es.length), es[i].cells.length = kk) ∧
      ∃ u : Nat → Nat → Value, (∀ i j, i < es.length → j < kk → G'.imm L.block (i * kk + j) = some (u i j)) ∧ (∀ i (h : i < es.length) j (h' : j < es[i].cells.length), VR G' es[i].cells[j] (u i j)) := by
  obtain ⟨L, hL, hobj, hown⟩ := h.obj _ _ _ _ hS
  have hobj' := hobj
  obtain ⟨hk0, hLk, hcap, hm, hcl, hrows⟩ := hobj
  let G' : Ghost := { G with imm := fun b o => if b = L.block ∧ 0 < L.cap then (w.cell? ⟨b, o, none⟩) else G.imm b o }
  have hle : G.le G' := by
    refine ⟨rfl, fun b o u e => ?_, fun _ _ _ _ e => e⟩
    show (if b = L.block ∧ 0 < L.cap then (w.cell? ⟨b, o, none⟩) else G.imm b o) = some u
    split
    · exact h.imm _ _ _ e
    · exact e
  have hcells : ∀ i (hi : i < es.length) j (_ : j < kk), ∃ u, w.cell? ⟨L.block, i * kk + j, none⟩ = some u ∧ ∀ hq : j < es[i].cells.length, VR G (es[i].cells[j]'hq) u := by
    intro i hi j hj
    obtain ⟨u, h1, h2⟩ := hobj'.cell hi hj
    rw [hLk] at h1
    exact ⟨u, h1, fun _ => h2⟩
  refine ⟨G', hle, ?_, L, hL, hLk, hcap, hm, hcl, fun i j => if h' : i < es.length ∧ j < kk then (hcells i h'.1 j h'.2).choose else undef, fun i j hi hj => ?_, fun i hi j hj => ?_⟩
  · have hs := h.sub (del_sub S r k)
    refine ⟨hs.below, fun b o u e => ?_, fun r' k' o g' e => ?_, hs.inj, hs.fin, hs.fing⟩
    · have e' : (if b = L.block ∧ 0 < L.cap then (w.cell? ⟨b, o, none⟩) else G.imm b o) = some u := e
      split at e'
      · exact e'
      · exact h.imm _ _ _ e'
    · have hne : ¬ (r' = r ∧ k' = k) := fun hc => by simp only [St.del] at e; rw [if_pos hc] at e; cases e
      have e0 := del_sub S r k _ _ _ e
      obtain ⟨L', q1, q2, q3⟩ := h.obj _ _ _ _ e0
      refine ⟨L', q1, q2.keep hle (fun _ => rfl), fun hc => ⟨(q3 hc).1, fun x => ?_⟩⟩
      show (if L'.block = L.block ∧ 0 < L.cap then (w.cell? ⟨L'.block, x, none⟩) else G.imm L'.block x) = none
      rw [if_neg (fun hb => h.inj _ _ _ _ _ _ _ _ _ _ e0 hS q1 hL hc hb.2 hne hb.1)]
      exact (q3 hc).2 x
  · show (if L.block = L.block ∧ 0 < L.cap then (w.cell? ⟨L.block, i * kk + j, none⟩) else G.imm L.block (i * kk + j)) = some (dite _ _ _)
    rw [if_pos ⟨rfl, by omega⟩, dif_pos ⟨hi, hj⟩]
    exact (hcells i hi j hj).choose_spec.1
  · have hjk : j < kk := by rw [← hcl i hi]; exact hj
    show VR G' _ (dite _ _ _)
    rw [dif_pos (⟨hi, hjk⟩ : i < es.length ∧ j < kk)]
    exact ((hcells i hi j hjk).choose_spec.2 hj).mono hle
/-- A one-cell value in which the row (r, k, g) is read as the list es. -/
def frz1 (r k g kk : Nat) (es : List AV) : AV → AV
  | .sl kk' r' k' g' off len => if r' = r ∧ k' = k ∧ g' = g ∧ kk' = kk ∧ off + len ≤ es.length then .list ((es.drop off).take len) else .sl kk' r' k' g' off len
  | v => v
def frz2 (r k g kk : Nat) (es : List AV) : AV → AV
  | .agg cs => .agg (cs.map (frz1 r k g kk es))
  | v => frz1 r k g kk es v
def frz (r k g kk : Nat) (es : List AV) : AV → AV
  | .tuple vs => .tuple (vs.map (frz2 r k g kk es))
  | v => frz2 r k g kk es v
section
variable {G G' : Ghost} {S : St} {w : World} {r k g kk : Nat} {es : List AV}
theorem frz1_sound {L : Loc} (hle : G.le G') (hL : G.loc r k g = some L) (hk : L.k = kk) (hcap : es.length ≤ L.cap) (hm : L.cap ≤ maxLen) (hcl : ∀ i (h : i < es.length), es[i].cells.length = kk)
    (u : Nat → Nat → Value) (h1 : ∀ i j, i < es.length → j < kk → G'.imm L.block (i * kk + j) = some (u i j)) (h2 : ∀ i (h : i < es.length) j (h' : j < es[i].cells.length), VR G' es[i].cells[j] (u i j))
    {v : AV} {x : Value} (hv : VR G v x) : VR G' (frz1 r k g kk es v) x := by
  cases v with
  | sl kk' r' k' g' off len =>
    simp only [frz1]
    split
    · rename_i hc
      obtain ⟨rfl, rfl, rfl, rfl, hlen⟩ := hc
      cases hv with
      | sl _ _ _ _ _ _ a L' hL' hk' hc' hm' ha =>
      obtain rfl : L' = L := by rw [hL] at hL'; exact (Option.some.inj hL').symm
      have hl : ((es.drop off).take len).length = len := by simp; omega
      refine .list _ a len (L'.cap - off) L'.block (off * kk') kk' (fun i j => u (off + i) j) hl.symm (by omega) (by omega) (fun hp => ?_) (fun i hi => ?_) (fun i j hi hj => ?_) (fun i hi j hj => ?_)
      · rw [ha (by omega), hk]
      · simp only [List.getElem_take, List.getElem_drop]; exact hcl _ _
      · have := h1 (off + i) j (by omega) hj
        rw [Nat.add_mul, Nat.add_assoc] at this
        exact this
      · simp only [List.getElem_take, List.getElem_drop] at hj ⊢
        exact h2 _ _ j hj
    · exact hv.mono hle
  | _ => exact hv.mono hle
theorem frz_sound {L : Loc} (hle : G.le G') (hL : G.loc r k g = some L) (hk : L.k = kk) (hcap : es.length ≤ L.cap) (hm : L.cap ≤ maxLen) (hcl : ∀ i (h : i < es.length), es[i].cells.length = kk)
    (u : Nat → Nat → Value) (h1 : ∀ i j, i < es.length → j < kk → G'.imm L.block (i * kk + j) = some (u i j)) (h2 : ∀ i (h : i < es.length) j (h' : j < es[i].cells.length), VR G' es[i].cells[j] (u i j))
    {v : AV} {x : Value} (hv : VR G v x) : VR G' (frz r k g kk es v) x := by
  have two : ∀ (v : AV) (x : Value), VR G v x → VR G' (frz2 r k g kk es v) x := by
    intro v x hv
    cases v with
    | agg cs =>
      cases hv with
      | agg _ xs q1 q2 =>
      refine .agg _ _ (by simpa using q1) (fun i h h' => ?_)
      simp only [List.getElem_map]
      exact frz1_sound hle hL hk hcap hm hcl u h1 h2 (q2 i (by simpa using h) h')
    | _ => exact frz1_sound hle hL hk hcap hm hcl u h1 h2 hv
  cases v with
  | tuple vs =>
    cases hv with
    | tuple _ xs q1 q2 =>
    refine .tuple _ _ (by simpa using q1) (fun i h h' => ?_)
    simp only [List.getElem_map]
    exact two _ _ (q2 i (by simpa using h) h')
  | _ => exact two _ _ hv
end
theorem Wk.freeze {v : AV} {S : St} {r k g kk : Nat} {es : List AV} (hS : S r k = some (.arr kk es, g)) : Wk v S (frz r k g kk es v) (S.del r k) := fun G w x hr hv => by
  obtain ⟨G', hle, hr', L, a1, a2, a3, a4, a5, u, a6, a7⟩ := hr.freeze hS
  exact ⟨G', hle, hr', frz_sound hle a1 a2 a3 a4 a5 u a6 a7 hv⟩
theorem EWk.freeze {t : Env} {S : St} {r k g kk : Nat} {es : List AV} (hS : S r k = some (.arr kk es, g)) (d : Nat) : EWk t S (upd t d (frz r k g kk es (t d))) (S.del r k) := fun n G a w hr ht => by
  obtain ⟨G', hle, hr', L, a1, a2, a3, a4, a5, u, a6, a7⟩ := hr.freeze hS
  refine ⟨G', hle, hr', ht.1, ht.2.1, fun i => ?_⟩
  unfold upd
  split
  · rename_i e; subst e; exact frz_sound hle a1 a2 a3 a4 a5 u a6 a7 (ht.2.2 i)
  · exact (ht.2.2 i).mono hle
/-- All slots at once. -/
theorem EWk.freezeAll {t : Env} {S : St} {r k g kk : Nat} {es : List AV} (hS : S r k = some (.arr kk es, g)) : EWk t S (fun i => frz r k g kk es (t i)) (S.del r k) := fun n G a w hr ht => by
  obtain ⟨G', hle, hr', L, a1, a2, a3, a4, a5, u, a6, a7⟩ := hr.freeze hS
  exact ⟨G', hle, hr', ht.1, ht.2.1, fun i => frz_sound hle a1 a2 a3 a4 a5 u a6 a7 (ht.2.2 i)⟩
/-! ### Values seen otherwise -/
def VW (v v' : AV) : Prop := ∀ (G : Ghost) (x : Value), VR G v x → VR G v' x
theorem VW.refl (v : AV) : VW v v := fun _ _ h => h
theorem VW.junk (v : AV) : VW v .junk := fun _ _ _ => .junk _
theorem VW.nil : VW .nil (.list []) := fun _ _ h => by
  cases h
  exact .list [] none 0 0 0 0 0 (fun _ _ => undef) rfl (by omega) (by simp [maxLen]) (fun h => by omega) (fun i h => by simp at h) (fun i _ h => by omega) (fun i h => by simp at h)
theorem VW.agg {cs cs' : List AV} (hl : cs'.length = cs.length) (h : ∀ i (h : i < cs.length) (h' : i < cs'.length), VW cs[i] cs'[i]) : VW (.agg cs) (.agg cs') := fun G x hv => by
  cases hv with
  | agg _ xs q1 q2 => exact .agg _ _ (by omega) (fun i h1 h2 => h i (by omega) h1 _ _ (q2 i (by omega) h2))
theorem VW.tuple {cs cs' : List AV} (hl : cs'.length = cs.length) (h : ∀ i (h : i < cs.length) (h' : i < cs'.length), VW cs[i] cs'[i]) : VW (.tuple cs) (.tuple cs') := fun G x hv => by
  cases hv with
  | tuple _ xs q1 q2 => exact .tuple _ _ (by omega) (fun i h1 h2 => h i (by omega) h1 _ _ (q2 i (by omega) h2))
theorem Wk.of {v v' : AV} {S : St} (h : VW v v') : Wk v S v' S := fun G _ x hr hv => ⟨G, Ghost.le.refl G, hr, h G x hv⟩
theorem Gives.drop {R : AV → St → Prop} {v : AV} {S : St} (rg : Nat) (h : Gives R v (S.clear rg)) : Gives R v S := .wk (Wk.sub (clear_sub S rg)) h
theorem Gives.nil {R : AV → St → Prop} {S : St} (h : Gives R (.list []) S) : Gives R .nil S := .wk (Wk.of VW.nil) h
/-- A row is given out as a list; the region is forgotten. -/
theorem Gives.row {R : AV → St → Prop} {S : St} {kk r k g off n : Nat} {es : List AV} (hS : S r k = some (.arr kk es, g)) (hn : off + n ≤ es.length) (h : Gives R (.list ((es.drop off).take n)) (S.clear r)) : Gives R (.sl kk r k g off n) S := by
  refine .wk (Wk.trans (Wk.freeze hS) (Wk.sub (?_ : (S.clear r).sub _))) (?_ : Gives R (frz r k g kk es (.sl kk r k g off n)) _)
  · intro r' k' x h
    simp only [St.clear, St.del] at h ⊢
    split at h
    · cases h
    · rename_i hne; rw [if_neg (fun hc => hne hc.1)]; exact h
  · simp only [frz, frz2, frz1]
    rw [if_pos (by simp [hn])]
    exact h
theorem EWk.sub {t : Env} {S S' : St} (h : S'.sub S) : EWk t S t S' := fun _ G _ _ hr ht => ⟨G, Ghost.le.refl G, hr.sub h, ht⟩
/-- A nil slice becomes an empty row of the call's own, under a key of choice. -/
theorem Rel.mat {G : Ghost} {S : St} {w : World} (hr : Rel G S w) (r k kk : Nat) (hk : 0 < kk) : ∃ g G', G.le G' ∧ Rel G' (S.set r k (.arr kk []) g) w ∧ VR G' (.sl kk r k g 0 0) (.slice none 0 0) := by
  obtain ⟨g, hg⟩ := hr.fresh r k
  obtain ⟨G', q1, q2, _, q4⟩ := hr.put (grownRefl w) r k g (.arr kk []) ⟨0, 0, kk, 0⟩ (fun b hb => by cases hb) (fun h => by simp at h) (.inl hg)
    (fun G' hle => ⟨by omega, rfl, by simp, by simp [maxLen], fun i h => by simp at h, fun h => by simp at h⟩)
  exact ⟨g, G', q1, q4, VR.sl (G := G') kk r k g 0 0 none _ q2 rfl (by simp) (by simp [maxLen]) (fun h => by simp at h)⟩
theorem Later.mat {K : Env → St → Prop} {t : Env} {S : St} (d r k kk : Nat) (h0 : t d = .nil) (hk : 0 < kk) (h : ∀ g, Later K (upd t d (.sl kk r k g 0 0)) (S.set r k (.arr kk []) g)) : Later K t S := fun n G a w hr ht => by
  obtain ⟨g, G', q1, q2, q3⟩ := hr.mat r k kk hk
  refine lift_mono (h g n G' a w q2 ⟨ht.1, ht.2.1, fun i => ?_⟩) q1
  unfold upd
  split
  · rename_i e
    subst e
    have := ht.2.2 i
    rw [h0] at this
    generalize a.tmps.getD i undef = x at this ⊢
    cases this
    exact q3
  · exact (ht.2.2 i).mono q1
/-- An argument that is nil goes as an empty row. -/
theorem Ctr.mat {P : Program} {f : FuncId} {as : List AV} {S : St} {R : AV → St → Prop} (i r k kk : Nat) (h0 : as[i]? = some .nil) (hk : 0 < kk) (h : ∀ g, Ctr P f (as.set i (.sl kk r k g 0 0)) (S.set r k (.arr kk []) g) R) : Ctr P f as S R := by
  refine ⟨(h 0).1, fun G w vs hr hvs => ?_⟩
  obtain ⟨g, G', q1, q2, q3⟩ := hr.mat r k kk hk
  refine ((h g).2 G' w vs q2 ⟨by simpa using hvs.1, fun j hj hj' => ?_⟩).mono ?_
  · rw [List.getElem_set]
    have hj0 : j < as.length := by simpa using hj
    split
    · rename_i e
      subst e
      have := hvs.2 i hj0 hj'
      rw [List.getElem?_eq_getElem hj0] at h0
      rw [Option.some.inj h0] at this
      generalize vs[i] = x at this ⊢
      cases this
      exact q3
    · exact (hvs.2 j hj0 hj').mono q1
  · rintro e w' ⟨v, av, S', G2, a1, a2, a3, a4, a5⟩
    exact ⟨v, av, S', G2, a1, a2, q1.trans a3, a4, a5⟩
/-- An argument is seen otherwise. -/
theorem Ctr.arg {P : Program} {f : FuncId} {as as' : List AV} {S : St} {R : AV → St → Prop} (hl : as'.length = as.length) (hv : ∀ i (h : i < as.length) (h' : i < as'.length), VW as[i] as'[i]) (h : Ctr P f as' S R) : Ctr P f as S R :=
  ⟨h.1, fun G w vs hr hvs => h.2 G w vs hr ⟨hvs.1.trans hl.symm, fun i h1 h2 => hv i (by omega) h1 G _ (hvs.2 i (by omega) h2)⟩⟩
/-- A row among the arguments goes as a list, for good. -/
theorem Ctr.freeze {P : Program} {f : FuncId} {as : List AV} {S : St} {R : AV → St → Prop} {r k g kk : Nat} {es : List AV} (hS : S r k = some (.arr kk es, g)) (h : Ctr P f (as.map (frz r k g kk es)) (S.del r k) R) : Ctr P f as S R := by
  refine ⟨h.1, fun G w vs hr hvs => ?_⟩
  obtain ⟨G', hle, hr', L, a1, a2, a3, a4, a5, u, a6, a7⟩ := hr.freeze hS
  refine (h.2 G' w vs hr' ⟨by simpa using hvs.1, fun i h1 h2 => ?_⟩).mono ?_
  · simp only [List.getElem_map]
    exact frz_sound hle a1 a2 a3 a4 a5 u a6 a7 (hvs.2 i (by simpa using h1) h2)
  · rintro e w' ⟨v, av, S', G2, b1, b2, b3, b4, b5⟩
    exact ⟨v, av, S', G2, b1, b2, hle.trans b3, b4, b5⟩
end Go.Gg
namespace Go.Gg
abbrev Key := Nat × Nat
/-- What is read, and what is written. -/
abbrev Eff := List Key × Option Key
abbrev Chg := Option (Nat × Nat × (Nat → GObj × Nat))
def Chg.app (e : Chg) (g : Nat) (S : St) : St := match e with | none => S | some (r, k, f) => S.set r k (f g).1 (f g).2
def Chg.key (e : Chg) : Option Key := e.map fun x => (x.1, x.2.1)
/-- What a call comes to, told ahead: its value, what it looks at, what it writes. -/
structure CR where
  v : AV
  rd : List Key
  wr : Option (Nat × Nat × GObj × Nat)
def CR.app (u : CR) (S : St) : St := match u.wr with | none => S | some (r, k, o, g) => S.set r k o g
def CR.key (u : CR) : Option Key := u.wr.map fun x => (x.1, x.2.1)
def agree (l : List Key) (w : Option Key) (S' S : St) : Prop := (∀ p ∈ l, S' p.1 p.2 = S p.1 p.2) ∧ (∀ p, w = some p → S' p.1 p.2 = S p.1 p.2)
theorem agree.refl (l : List Key) (w : Option Key) (S : St) : agree l w S S := ⟨fun _ _ => rfl, fun _ _ => rfl⟩
theorem agree.trans {l : List Key} {w : Option Key} {S S' S'' : St} (h : agree l w S S') (h' : agree l w S' S'') : agree l w S S'' := ⟨fun p hp => (h.1 p hp).trans (h'.1 p hp), fun p hp => (h.2 p hp).trans (h'.2 p hp)⟩
theorem agree.symm {l : List Key} {w : Option Key} {S S' : St} (h : agree l w S S') : agree l w S' S := ⟨fun p hp => (h.1 p hp).symm, fun p hp => (h.2 p hp).symm⟩
def fpo (rg k : Nat) (u : CR) (o : Op) (e : Operand → AV) : Eff := match o with
  | .load _ x => (match e x with | .ptr r k _ _ _ => [(r, k)] | _ => [], none)
  | .store _ a _ => ([], match e a with | .ptr r k _ _ _ => some (r, k) | _ => none)
  | .alloc _ | .box .. | .makeSlice .. | .makeMap .. => ([], some (rg, k))
  | .lookup _ x _ _ => (match e x with | .map r k _ => [(r, k)] | _ => [], none)
  | .mapUpdate _ m _ _ => ([], match e m with | .map r k _ => some (r, k) | _ => none)
  | .insert _ m _ _ => ([], match e m with | .map r k _ => some (r, k) | _ => none)
  | .buildSlice .. => (match u.v with | .list _ => ([], none) | _ => ([], some (rg, k)))
  | .call { callee := .builtin .append, args := xs, argTypes := _ } => match xs.toList with
    | [b, x] => (match e x with | .sl _ r k _ _ _ => [(r, k)] | _ => [], match e b with | .sl _ r k _ _ _ => some (r, k) | _ => some (rg, k))
    | _ => ([], none)
  | .call { callee := .builtin .len, args := xs, argTypes := _ } => match xs.toList with
    | [x] => (match e x with | .map r k _ => [(r, k)] | _ => [], none)
    | _ => ([], none)
  | .call { callee := .value _, args := _, argTypes := _ } => (u.rd, u.key)
  | _ => ([], none)
/-- A row that is made and given for good at once. -/
def vBL (P : Program) (T : TypeId) (len : Nat) (idx : List Nat) (es : List AV) (K : AV → Prop) : Prop :=
  match td P T with
  | .slice e => ((idx == List.range len) = true ∧ es.length = len ∧ tyok P e = true ∧ len * (zav P e).cells.length ≤ 16777216 ∧ (es.all fun x => x.solid && (x.cells.length == (zav P e).cells.length)) = true) ∧ K (.list es)
  | _ => False
theorem sop_buildList {P : Program} {n : Nat} {o : Oper} {t : Env} {S : St} {T : TypeId} {len : Nat} {parts : Array (Nat × Operand)} {K : AV → St → Prop} (ho : o.op = .buildSlice T len parts)
    (h : vBL P T len (parts.toList.map (·.1)) (parts.toList.map fun p => ev t p.2) (fun v => K v S)) : SOp P n o t S K := by
  intro G a w Kc Q hr ht hk
  obtain ⟨r, hrf⟩ := hr.freshRegion
  unfold vBL at h
  split at h
  · rename_i e hd
    obtain ⟨hc, hK⟩ := h
    refine sop_buildSlice (K := fun v S' => ∃ g, v = .sl (zav P e).cells.length r 0 g 0 len ∧ S' = S.set r 0 (.arr (zav P e).cells.length (parts.toList.map fun p => ev t p.2)) g) ho r 0 ?_ G a w Kc Q hr ht ?_
    · unfold vBuildSlice; rw [hd]; exact ⟨hc, fun g => ⟨g, rfl, rfl⟩⟩
    · rintro v av S' G' w' ⟨g, rfl, rfl⟩ hle hr' hv
      have hset : (S.set r 0 (.arr (zav P e).cells.length (parts.toList.map fun p => ev t p.2)) g) r 0 = some (.arr (zav P e).cells.length (parts.toList.map fun p => ev t p.2), g) := by simp [St.set]
      obtain ⟨G2, h1, h2, h3⟩ := Wk.freeze (v := .sl (zav P e).cells.length r 0 g 0 len) hset G' w' v hr' hv
      have e1 : frz r 0 g (zav P e).cells.length (parts.toList.map fun p => ev t p.2) (.sl (zav P e).cells.length r 0 g 0 len) = .list (parts.toList.map fun p => ev t p.2) := by
        have hl := hc.2.1
        simp only [frz, frz2, frz1]
        rw [if_pos ⟨trivial, trivial, trivial, trivial, by omega⟩, List.drop_zero, ← hl, List.take_length]
      have e2 : (S.set r 0 (.arr (zav P e).cells.length (parts.toList.map fun p => ev t p.2)) g).del r 0 = S := by
        funext r' k'
        simp only [St.del, St.set]
        by_cases hh : r' = r ∧ k' = 0
        · rw [if_pos hh, hh.1, hh.2, hrf 0]
        · rw [if_neg hh, if_neg hh]
      rw [e1] at h3
      rw [e2] at h2
      exact hk v _ S G2 w' hK (hle.trans h1) h2 h3
  · exact h.elim
/-- One operation, a call's outcome told ahead. -/
def vd (P : Program) (rg : Nat) (u : CR) (d : Option Nat) (o : Op) (e : Operand → AV) (S : St) (K : AV → St → Prop) : Prop := match o with
  | .call { callee := .value f, args := xs, argTypes := _ } => match e f with
    | .fn (.func g) [] caps => (∀ S', agree u.rd u.key S' S → Ctr P g (xs.toList.map e ++ caps) S' (fun v S'' => v = u.v ∧ S'' = u.app S')) ∧ K u.v (u.app S)
    | _ => False
  | .buildSlice T len parts => (match u.v with
    | .list _ => vBL P T len (parts.toList.map (·.1)) (parts.toList.map fun p => e p.2) (fun v => K v S)
    | _ => vBuildSlice P rg (d.getD 0) T len (parts.toList.map (·.1)) (parts.toList.map fun p => e p.2) S K)
  | _ => bif loud o then vl P rg (d.getD 0) o e S K else vq P o e S (fun v => K v S)
def NF (F : (Operand → AV) → St → (AV → St → Prop) → Prop) (xs : Array Operand) (E : Eff) (e : Operand → AV) (S : St) : Prop :=
  ∃ (c : Prop) (v : Nat → AV) (ch : Chg), (ch.key = none ∨ ch.key = E.2) ∧ ∀ (e' : Operand → AV) (S' : St), (∀ x ∈ xs, e' x = e x) → agree E.1 E.2 S' S → ∀ K, F e' S' K ↔ c ∧ ∀ g, K (v g) (ch.app g S')
def NFQ (F : (AV → Prop) → Prop) : Prop := ∃ (c : Prop) (v : AV), ∀ K, F K ↔ c ∧ K v
theorem nfq_false : NFQ (fun _ => False) := ⟨False, .junk, fun _ => by simp⟩
theorem nfq_one (v : AV) : NFQ (fun K => K v) := ⟨True, v, fun _ => by simp⟩
theorem nfq_and {A : Prop} {F : (AV → Prop) → Prop} (h : NFQ F) : NFQ (fun K => A ∧ F K) := by
  obtain ⟨c, v, h⟩ := h
  exact ⟨A ∧ c, v, fun K => by show A ∧ F K ↔ _; rw [h K, and_assoc]⟩
theorem nfq_cases {A : Prop} {F F' : (AV → Prop) → Prop} (h : NFQ F) (h' : NFQ F') : NFQ (fun K => (A → F K) ∧ (¬ A → F' K)) := by
  obtain ⟨c, v, h⟩ := h
  obtain ⟨c', v', h'⟩ := h'
  by_cases ha : A
  · exact ⟨c, v, fun K => by simp [ha, h K]⟩
  · exact ⟨c', v', fun K => by simp [ha, h' K]⟩
theorem nfq_bits (op : BinOp) (k : IntKind) (m n : Int) : NFQ (vBits op k m n) := by
  show NFQ (fun K => vBits op k m n K)
  cases op <;> simp only [vBits] <;> repeat (first | exact nfq_false | exact nfq_one _ | refine nfq_and ?_)
theorem nfq_shift (op : BinOp) (k : IntKind) (m n : Int) : NFQ (vShift op k m n) := by
  show NFQ (fun K => vShift op k m n K)
  cases op <;> simp only [vShift] <;> repeat (first | exact nfq_false | exact nfq_one _ | refine nfq_and ?_)
theorem nfq_eqS (P : Program) (op : BinOp) (T : TypeId) (cs ds : List AV) : NFQ (fun K => match kshape P T with
    | some (.many ks) => match keyL ks cs, keyL ks ds with
      | some m, some n => (match op with | .eql => K (.bool (decide (m = n))) | .neq => K (.bool (!decide (m = n))) | _ => False)
      | _, _ => False
    | _ => False) := by
  generalize kshape P T = o
  rcases o with _ | (k | ks)
  · exact nfq_false
  · exact nfq_false
  · simp only []
    generalize keyL ks cs = a
    generalize keyL ks ds = b
    cases a <;> cases b <;> first
      | exact nfq_false
      | (cases op <;> first | exact nfq_one _ | exact nfq_false)
theorem nfq_bin (P : Program) (op : BinOp) (T : TypeId) (x y : Operand) (a b : AV) : NFQ (vBin P op T x y a b) := by
  show NFQ (fun K => vBin P op T x y a b K)
  cases a <;> cases b <;> simp only [vBin] <;> first
    | exact nfq_false
    | exact nfq_eqS ..
    | (cases op <;> repeat (first | exact nfq_false | exact nfq_one _ | exact nfq_bits .. | exact nfq_shift .. | refine nfq_and ?_))
theorem nfq_un (op : UnOp) (a : AV) : NFQ (vUn op a) := by
  show NFQ (fun K => vUn op a K)
  cases op <;> cases a <;> simp only [vUn] <;> repeat (first | exact nfq_false | exact nfq_one _ | refine nfq_and ?_)
theorem nfq_load (P : Program) (T : TypeId) (a : AV) (S : St) : NFQ (vLoad P T a S) := by
  show NFQ (fun K => vLoad P T a S K)
  cases a with
  | ptr r k g i off =>
    simp only [vLoad]
    cases S r k with
    | none => exact nfq_false
    | some p =>
      obtain ⟨o, g'⟩ := p
      cases o <;> simp only [] <;> repeat (first | exact nfq_false | exact nfq_one _ | refine nfq_and ?_)
  | iptr cs => simp only [vLoad]; exact nfq_and (nfq_one _)
  | _ => exact nfq_false
theorem nfq_idxAddr (P : Program) (T : TypeId) (x i : AV) : NFQ (vIdxAddr P T x i) := by
  show NFQ (fun K => vIdxAddr P T x i K)
  cases i <;> simp only [vIdxAddr] <;> try exact nfq_false
  cases td P T <;> simp only [] <;> try exact nfq_false
  all_goals (cases x <;> simp only [] <;> repeat (first | exact nfq_false | exact nfq_one _ | refine nfq_and ?_))
theorem nfq_index (P : Program) (T : TypeId) (x i : AV) : NFQ (vIndex P T x i) := by
  show NFQ (fun K => vIndex P T x i K)
  cases i <;> simp only [vIndex] <;> try exact nfq_false
  cases x <;> simp only [] <;> try exact nfq_false
  all_goals (cases td P T <;> simp only [] <;> repeat (first | exact nfq_false | exact nfq_one _ | refine nfq_and ?_))
theorem nfq_slice (P : Program) (T : TypeId) (x : AV) (lo hi mx : Option AV) : NFQ (vSlice P T x lo hi mx) := by
  show NFQ (fun K => vSlice P T x lo hi mx K)
  unfold vSlice
  cases td P T <;> cases mx <;> simp only [] <;> try exact nfq_false
  cases x <;> simp only [] <;> try exact nfq_false
  · rename_i es
    cases bnd lo 0 <;> cases bnd hi es.length <;> simp only [] <;> repeat (first | exact nfq_false | exact nfq_one _ | refine nfq_and ?_)
  · rename_i kk r k g off len
    cases bnd lo 0 <;> cases bnd hi len <;> simp only [] <;> repeat (first | exact nfq_false | exact nfq_one _ | refine nfq_and ?_)
theorem nfq_fieldAddr (P : Program) (T f : Nat) (x : AV) : NFQ (vFieldAddr P T f x) := by
  show NFQ (fun K => vFieldAddr P T f x K)
  unfold vFieldAddr
  cases td P T <;> simp only [] <;> try exact nfq_false
  cases x <;> simp only [] <;> repeat (first | exact nfq_false | exact nfq_one _ | refine nfq_and ?_)
theorem nfq_field (P : Program) (T f : Nat) (x : AV) : NFQ (vField P T f x) := by
  show NFQ (fun K => vField P T f x K)
  cases x <;> simp only [vField] <;> try exact nfq_false
  cases td P T <;> simp only [] <;> repeat (first | exact nfq_false | exact nfq_one _ | refine nfq_and ?_)
theorem nfq_build (P : Program) (T : Nat) (l : List (Nat × AV)) : NFQ (vBuild P T l) := by
  show NFQ (fun K => vBuild P T l K)
  unfold vBuild
  cases td P T <;> simp only [] <;> repeat (first | exact nfq_false | exact nfq_one _ | refine nfq_and ?_)
theorem nfq_len (P : Program) (T : Nat) (x : AV) : NFQ (vLen P T x) := by
  show NFQ (fun K => vLen P T x K)
  unfold vLen
  cases td P T <;> simp only [] <;> try exact nfq_false
  cases x <;> simp only [] <;> repeat (first | exact nfq_false | exact nfq_one _ | refine nfq_and ?_)
theorem nfq_lenS (P : Program) (T : Nat) (x : AV) (S : St) : NFQ (vLenS P T x S) := by
  show NFQ (fun K => vLenS P T x S K)
  by_cases hm : ∃ r k g, x = .map r k g
  · obtain ⟨r, k, g, rfl⟩ := hm
    simp only [vLenS]
    cases S r k with
    | none => exact nfq_false
    | some p =>
      obtain ⟨o, g'⟩ := p
      cases o <;> simp only [] <;> try exact nfq_false
      cases td P T <;> simp only [] <;> repeat (first | exact nfq_false | exact nfq_one _ | refine nfq_and ?_)
  · have e : (fun K => vLenS P T x S K) = vLen P T x := by
      funext K
      cases x <;> first | rfl | exact absurd ⟨_, _, _, rfl⟩ hm
    rw [e]
    exact nfq_len P T x
theorem nfq_lookup (P : Program) (T : Nat) (ok : Bool) (x i : AV) (S : St) : NFQ (vLookup P T ok x i S) := by
  show NFQ (fun K => vLookup P T ok x i S K)
  cases x with
  | map r k g =>
    simp only [vLookup]
    cases S r k with
    | none => exact nfq_false
    | some p =>
      obtain ⟨o, g'⟩ := p
      cases o with
      | arr kk es => exact nfq_false
      | mp sh n f =>
        simp only []
        generalize td P T = t'
        generalize mapKey sh i = m'
        cases t' <;> cases m' <;> first | exact nfq_false | exact nfq_and (nfq_one _)
  | _ => exact nfq_false
theorem vLenS_congr {P : Program} {T : TypeId} {a : AV} {S S' : St} (h : ∀ r k g, a = .map r k g → S' r k = S r k) : vLenS P T a S' = vLenS P T a S := by
  funext K
  cases a with
  | map r k g => have e := h r k g rfl; simp only [vLenS, e]
  | _ => rfl
theorem vLookup_congr {P : Program} {T : TypeId} {ok : Bool} {a i : AV} {S S' : St} (h : ∀ r k g, a = .map r k g → S' r k = S r k) : vLookup P T ok a i S' = vLookup P T ok a i S := by
  funext K
  cases a with
  | map r k g => have e := h r k g rfl; simp only [vLookup, e]
  | _ => rfl
theorem nfq_assert (P : Program) (T : Nat) (ok : Bool) (x : AV) : NFQ (vAssert P T ok x) := by
  show NFQ (fun K => vAssert P T ok x K)
  unfold vAssert
  refine nfq_and ?_
  cases x <;> simp only [] <;> first
    | (refine nfq_cases ?_ ?_
       · cases ok <;> exact nfq_one _
       · repeat (first | exact nfq_false | exact nfq_one _ | refine nfq_and ?_))
    | repeat (first | exact nfq_false | exact nfq_one _ | refine nfq_and ?_)
theorem nf_quiet {F : (Operand → AV) → St → (AV → Prop) → Prop} {xs : Array Operand} {E : Eff} {e : Operand → AV} {S : St} (hc : ∀ e' S', (∀ x ∈ xs, e' x = e x) → agree E.1 E.2 S' S → F e' S' = F e S) (h : NFQ (F e S)) :
    NF (fun e S K => F e S (fun v => K v S)) xs E e S := by
  obtain ⟨c, v, h⟩ := h
  refine ⟨c, fun _ => v, none, .inl rfl, fun e' S' he hS K => ?_⟩
  show F e' S' (fun v => K v S') ↔ _
  rw [hc e' S' he hS, h]
  simp [Chg.app]
theorem vLoad_congr {P : Program} {T : TypeId} {a : AV} {S S' : St} (h : ∀ r k g i off, a = .ptr r k g i off → S' r k = S r k) : vLoad P T a S' = vLoad P T a S := by
  funext K
  cases a <;> simp only [vLoad]
  rename_i r k g i off
  rw [h r k g i off rfl]
theorem view_congr {a : AV} {S S' : St} (h : ∀ kk r k g off n, a = .sl kk r k g off n → S' r k = S r k) : view S' a = view S a := by
  cases a <;> simp only [view]
  rename_i kk r k g off n
  rw [h kk r k g off n rfl]
theorem nf_false {xs : Array Operand} {E : Eff} {e : Operand → AV} {S : St} : NF (fun _ _ _ => False) xs E e S := ⟨False, fun _ => .junk, none, .inl rfl, fun _ _ _ _ _ => by simp⟩
theorem nf_upd {P : Program} {T : TypeId} {m i x : Operand} {xs : Array Operand} {e : Operand → AV} {S : St} (q1 : m ∈ xs) (q2 : i ∈ xs) (q3 : x ∈ xs) : NF (fun e S K => vMapUpd P T (e m) (e i) (e x) S K) xs ([], match e m with | .map r k _ => some (r, k) | _ => none) e S := by
  have hop : ∀ e' : Operand → AV, (∀ y ∈ xs, e' y = e y) → e' m = e m ∧ e' i = e i ∧ e' x = e x := fun e' he => ⟨he m q1, he i q2, he x q3⟩
  have hno : (∀ (S' : St), (∀ r k g, e m = .map r k g → S' r k = S r k) → ∀ K, ¬ vMapUpd P T (e m) (e i) (e x) S' K) → NF (fun e S K => vMapUpd P T (e m) (e i) (e x) S K) xs ([], match e m with | .map r k _ => some (r, k) | _ => none) e S :=
    fun hn => ⟨False, fun _ => .junk, none, .inl rfl, fun e' S' he hS' K => by
      obtain ⟨a, b, c⟩ := hop e' he
      simp only [a, b, c, false_and, iff_false]
      refine hn S' (fun r k g hm => hS'.2 (r, k) ?_) K
      simp only [hm]⟩
  by_cases hm : ∃ r k g, e m = .map r k g
  · obtain ⟨r, k, g, hm⟩ := hm
    cases hS : S r k with
    | none => exact hno fun S' h K hh => by simp only [hm, vMapUpd, h r k g hm, hS] at hh
    | some p =>
      obtain ⟨ob, g'⟩ := p
      cases ob with
      | arr kk es => exact hno fun S' h K hh => by simp only [hm, vMapUpd, h r k g hm, hS] at hh
      | mp sh n f =>
        cases hd : td P T with
        | map kt et =>
          cases hk : mapKey sh (e i) with
          | none => exact hno fun S' h K hh => by simp only [hm, vMapUpd, h r k g hm, hS, hd, hk] at hh
          | some ns =>
            refine ⟨g' = g ∧ kshape P kt = some sh, fun _ => .junk, some (r, k, fun _ => (.mp sh (bif (f ns).isSome then n else n + 1) (fun q => if q = ns then some (e x) else f q), g)), .inr (by simp [hm, Chg.key]), fun e' S' he hS' K => ?_⟩
            obtain ⟨a, b, c⟩ := hop e' he
            have h1 := hS'.2 (r, k) (by simp [hm])
            simp only [a, b, c, vMapUpd, hm, h1, hS, hd, hk, Chg.app, forall_const]
        | _ => exact hno fun S' h K hh => by simp only [hm, vMapUpd, h r k g hm, hS, hd] at hh
  · refine hno fun S' h K hh => ?_
    unfold vMapUpd at hh
    split at hh
    · rename_i r k g hq; exact hm ⟨r, k, g, hq⟩
    · exact hh
theorem nf_op (P : Program) (rg : Nat) (u : CR) (d : Option Nat) (o : Op) (e : Operand → AV) (S : St) : NF (fun e S K => vd P rg u d o e S K) o.operands (fpo rg (d.getD 0) u o e) e S := by
  cases o with
  | move x => exact nf_quiet (F := fun e _ K => K (e x)) (fun e' S' he _ => by simp only [he x (by simp [Op.operands])]) (nfq_one _)
  | assign x => exact nf_quiet (F := fun e _ K => K (e x)) (fun e' S' he _ => by simp only [he x (by simp [Op.operands])]) (nfq_one _)
  | pick c a b =>
    refine nf_quiet (F := fun e _ K => match e c with | .bool v => K (bif v then e a else e b) | _ => False) (fun e' S' he _ => by simp only [he c (by simp [Op.operands]), he a (by simp [Op.operands]), he b (by simp [Op.operands])]) ?_
    cases e c <;> first | exact nfq_one _ | exact nfq_false
  | binOp op T x y T' => exact nf_quiet (F := fun e _ K => vBin P op T x y (e x) (e y) K) (fun e' S' he _ => by simp only [he x (by simp [Op.operands]), he y (by simp [Op.operands])]) (nfq_bin ..)
  | unOp op T x => exact nf_quiet (F := fun e _ K => vUn op (e x) K) (fun e' S' he _ => by simp only [he x (by simp [Op.operands])]) (nfq_un ..)
  | convert s T x =>
    refine nf_quiet (F := fun e _ K => match e x, td P T, td P s with | .int _ n, .int k, .int _ => K (.int k (k.wrap n)) | _, _, _ => False) (fun e' S' he _ => by simp only [he x (by simp [Op.operands])]) ?_
    generalize e x = a
    generalize td P T = b
    generalize td P s = c
    cases a <;> try exact nfq_false
    cases b <;> try exact nfq_false
    cases c <;> first | exact nfq_one _ | exact nfq_false
  | makeInterface T x =>
    exact nf_quiet (F := fun e _ K => (match td P T with | .iface | .other => False | _ => True) ∧ K (.iface T (e x))) (fun e' S' he _ => by simp only [he x (by simp [Op.operands])]) (nfq_and (nfq_one _))
  | makeFunc fn first caps =>
    refine nf_quiet (F := fun e _ K => K (.fn fn (first.toList.map e) (caps.toList.map e))) (fun e' S' he _ => ?_) (nfq_one _)
    have h1 : first.toList.map e' = first.toList.map e := List.map_congr_left fun x hx => he x (by simp [Op.operands] at hx ⊢; exact .inl hx)
    have h2 : caps.toList.map e' = caps.toList.map e := List.map_congr_left fun x hx => he x (by simp [Op.operands] at hx ⊢; exact .inr hx)
    simp only [h1, h2]
  | build T parts =>
    refine nf_quiet (F := fun e _ K => vBuild P T (parts.toList.map fun p => (p.1, e p.2)) K) (fun e' S' he _ => ?_) (nfq_build ..)
    have h1 : (parts.toList.map fun p => (p.1, e' p.2)) = parts.toList.map fun p => (p.1, e p.2) := List.map_congr_left fun p hp => by rw [he p.2 (by simp [Op.operands] at hp ⊢; exact ⟨_, hp⟩)]
    simp only [h1]
  | load T x =>
    refine nf_quiet (F := fun e S K => vLoad P T (e x) S K) (fun e' S' he hS => ?_) (nfq_load ..)
    have h1 := he x (by simp [Op.operands])
    simp only [h1]
    rw [vLoad_congr (S := S)]
    intro r k g i off hx
    have h2 := hS.1 (r, k)
    simp only [fpo, hx] at h2
    exact h2 (by simp)
  | lookup T x i ok =>
    refine nf_quiet (F := fun e S K => vLookup P T ok (e x) (e i) S K) (fun e' S' he hS => ?_) (nfq_lookup ..)
    have h1 := he x (by simp [Op.operands])
    have h2 := he i (by simp [Op.operands])
    simp only [h1, h2]
    rw [vLookup_congr (S := S)]
    intro r k g hx
    have h2 := hS.1 (r, k)
    simp only [fpo, hx] at h2
    exact h2 (by simp)
  | makeMap T r =>
    show NF (fun e S K => vMakeMap P rg (d.getD 0) T (r.map e) S K) _ _ _ _
    have hr : ∀ e' : Operand → AV, (∀ x ∈ (Op.makeMap T r).operands, e' x = e x) → r.map e' = r.map e := fun e' he => by
      cases r with
      | none => rfl
      | some y => simp only [Option.map_some, he y (by simp [Op.operands])]
    unfold vMakeMap
    cases td P T with
    | map kt et =>
      simp only []
      cases kshape P kt with
      | none => exact nf_false
      | some sh =>
        refine ⟨(match r.map e with | none => True | some (.int _ _) => True | _ => False), fun g => .map rg (d.getD 0) g, some (rg, d.getD 0, fun g => (.mp sh 0 (fun _ => none), g)), .inr rfl, fun e' S' he hS' K => ?_⟩
        simp only [hr e' he, Chg.app]
        exact Iff.rfl
    | _ => exact nf_false
  | mapUpdate T m i x => exact nf_upd (by simp [Op.operands]) (by simp [Op.operands]) (by simp [Op.operands])
  | insert T m i x => exact nf_upd (by simp [Op.operands]) (by simp [Op.operands]) (by simp [Op.operands])
  | nilCheck x =>
    exact nf_quiet (F := fun e _ K => (match e x with | .ptr .. | .iptr _ => True | .fn (.func _) _ _ => True | _ => False) ∧ K (e x)) (fun e' S' he _ => by simp only [he x (by simp [Op.operands])]) (nfq_and (nfq_one _))
  | fieldAddr T x f => exact nf_quiet (F := fun e _ K => vFieldAddr P T f (e x) K) (fun e' S' he _ => by simp only [he x (by simp [Op.operands])]) (nfq_fieldAddr ..)
  | field T x f => exact nf_quiet (F := fun e _ K => vField P T f (e x) K) (fun e' S' he _ => by simp only [he x (by simp [Op.operands])]) (nfq_field ..)
  | indexAddr T x i => exact nf_quiet (F := fun e _ K => vIdxAddr P T (e x) (e i) K) (fun e' S' he _ => by simp only [he x (by simp [Op.operands]), he i (by simp [Op.operands])]) (nfq_idxAddr ..)
  | index T x i => exact nf_quiet (F := fun e _ K => vIndex P T (e x) (e i) K) (fun e' S' he _ => by simp only [he x (by simp [Op.operands]), he i (by simp [Op.operands])]) (nfq_index ..)
  | slice T x lo hi mx =>
    refine nf_quiet (F := fun e _ K => vSlice P T (e x) (lo.map e) (hi.map e) (mx.map e) K) (fun e' S' he _ => ?_) (nfq_slice ..)
    have h1 : lo.map e' = lo.map e := by cases lo with | none => rfl | some y => simp only [Option.map_some, he y (by simp [Op.operands])]
    have h2 : hi.map e' = hi.map e := by cases hi with | none => rfl | some y => simp only [Option.map_some, he y (by simp [Op.operands])]
    have h3 : mx.map e' = mx.map e := by cases mx with | none => rfl | some y => simp only [Option.map_some, he y (by simp [Op.operands])]
    simp only [h1, h2, h3, he x (by simp [Op.operands])]
  | extract x i =>
    refine nf_quiet (F := fun e _ K => match e x with | .tuple vs => i < vs.length ∧ K (vs.getD i .junk) | _ => False) (fun e' S' he _ => by simp only [he x (by simp [Op.operands])]) ?_
    cases e x <;> first | exact nfq_and (nfq_one _) | exact nfq_false
  | typeAssert x a T ok => exact nf_quiet (F := fun e _ K => vAssert P T ok (e x) K) (fun e' S' he _ => by simp only [he x (by simp [Op.operands])]) (nfq_assert ..)
  | alloc T => exact ⟨tyok P T = true, fun g => .ptr rg (d.getD 0) g 0 0, some (rg, d.getD 0, fun g => (.arr (zav P T).cells.length [zav P T], g)), .inr rfl, fun _ _ _ _ _ => Iff.rfl⟩
  | box T x =>
    refine ⟨(e x).solid = true ∧ 0 < (e x).cells.length, fun g => .ptr rg (d.getD 0) g 0 0, some (rg, d.getD 0, fun g => (.arr (e x).cells.length [e x], g)), .inr rfl, fun e' S' he _ K => ?_⟩
    show (((e' x).solid = true ∧ 0 < (e' x).cells.length) ∧ ∀ g, K (.ptr rg (d.getD 0) g 0 0) (S'.set rg (d.getD 0) (.arr (e' x).cells.length [e' x]) g)) ↔ _
    rw [he x (by simp [Op.operands])]
    exact Iff.rfl
  | store T a x =>
    show NF (fun e S K => vStore P T (e a) (e x) S K) _ _ _ _
    cases ha : e a with
    | ptr r k g i off =>
      cases hS : S r k with
      | none =>
        refine ⟨False, fun _ => .junk, none, .inl rfl, fun e' S' he hS' K => ?_⟩
        have h1 := hS'.2 (r, k) (by simp [fpo, ha])
        simp only [he a (by simp [Op.operands]), vStore, ha, h1, hS, false_and]
      | some p =>
        obtain ⟨ob, g'⟩ := p
        cases ob with
        | arr kk es =>
          refine ⟨g' = g ∧ i < es.length ∧ 0 < sz P T ∧ (e x).cells.length = sz P T ∧ off + sz P T ≤ kk ∧ allOne (e x).cells = true, fun _ => .junk, some (r, k, fun _ => (.arr kk (es.set i (stv (es.getD i .junk) off (e x))), g)), .inr (by simp [fpo, ha, Chg.key]), fun e' S' he hS' K => ?_⟩
          have h1 := hS'.2 (r, k) (by simp [fpo, ha])
          simp only [he a (by simp [Op.operands]), he x (by simp [Op.operands]), vStore, ha, h1, hS, Chg.app, forall_const]
        | mp sh n m =>
          refine ⟨False, fun _ => .junk, none, .inl rfl, fun e' S' he hS' K => ?_⟩
          have h1 := hS'.2 (r, k) (by simp [fpo, ha])
          simp only [he a (by simp [Op.operands]), vStore, ha, h1, hS, false_and]
    | _ =>
      refine ⟨False, fun _ => .junk, none, .inl rfl, fun e' S' he hS' K => ?_⟩
      simp only [he a (by simp [Op.operands]), vStore, ha, false_and]
  | makeSlice T l c =>
    show NF (fun e S K => vMake P rg (d.getD 0) T (e l) (e c) S K) _ _ _ _
    unfold vMake
    cases hd : td P T with
    | slice el =>
      cases hl : e l with
      | int k1 n =>
        cases hc : e c with
        | int k2 m =>
          refine ⟨(0 ≤ n ∧ n ≤ m ∧ (bts P el : Int) * m ≤ 281474976710656 ∧ m ≤ 9223372036854775807) ∧ tyok P el = true, fun g => .sl (zav P el).cells.length rg (d.getD 0) g 0 n.toNat, some (rg, d.getD 0, fun g => (.arr (zav P el).cells.length (List.replicate n.toNat (zav P el)), g)), .inr rfl, fun e' S' he hS' K => ?_⟩
          simp only [he l (by simp [Op.operands]), he c (by simp [Op.operands]), hl, hc, Chg.app, and_assoc]
        | _ => exact ⟨False, fun _ => .junk, none, .inl rfl, fun e' S' he hS' K => by simp only [he l (by simp [Op.operands]), he c (by simp [Op.operands]), hl, hc, false_and]⟩
      | _ => exact ⟨False, fun _ => .junk, none, .inl rfl, fun e' S' he hS' K => by simp only [he l (by simp [Op.operands]), hl, false_and]⟩
    | _ => exact nf_false
  | buildSlice T len parts =>
    have hno : NF (fun e S K => vBuildSlice P rg (d.getD 0) T len (parts.toList.map (·.1)) (parts.toList.map fun p => e p.2) S K) (Op.buildSlice T len parts).operands ([], some (rg, d.getD 0)) e S := by
      unfold vBuildSlice
      cases hd : td P T with
      | slice el =>
        refine ⟨((parts.toList.map (·.1)) == List.range len) = true ∧ (parts.toList.map fun p => e p.2).length = len ∧ tyok P el = true ∧ len * (zav P el).cells.length ≤ 16777216 ∧ ((parts.toList.map fun p => e p.2).all fun x => x.solid && (x.cells.length == (zav P el).cells.length)) = true,
          fun g => .sl (zav P el).cells.length rg (d.getD 0) g 0 len, some (rg, d.getD 0, fun g => (.arr (zav P el).cells.length (parts.toList.map fun p => e p.2), g)), .inr rfl, fun e' S' he hS' K => ?_⟩
        have h1 : (parts.toList.map fun p => e' p.2) = parts.toList.map fun p => e p.2 := List.map_congr_left fun p hp => he p.2 (by simp [Op.operands] at hp ⊢; exact ⟨_, hp⟩)
        simp only [h1, Chg.app]
      | _ => exact nf_false
    have hpl : NF (fun e S K => vBL P T len (parts.toList.map (·.1)) (parts.toList.map fun p => e p.2) (fun v => K v S)) (Op.buildSlice T len parts).operands ([], none) e S := by
      refine nf_quiet (F := fun e _ K => vBL P T len (parts.toList.map (·.1)) (parts.toList.map fun p => e p.2) K) (fun e' S' he _ => ?_) ?_
      · have h1 : (parts.toList.map fun p => e' p.2) = parts.toList.map fun p => e p.2 := List.map_congr_left fun p hp => he p.2 (by simp [Op.operands] at hp ⊢; exact ⟨_, hp⟩)
        simp only [h1]
      · unfold vBL
        cases td P T <;> first | exact nfq_and (nfq_one _) | exact nfq_false
    obtain ⟨uv, rd, wr⟩ := u
    cases uv <;> first | exact hpl | exact hno
  | call c =>
    obtain ⟨callee, xs, ts⟩ := c
    cases callee with
    | invoke r m => exact nf_false
    | value f =>
      show NF (fun e S K => match e f with
        | .fn (.func g) [] caps => (∀ S', agree u.rd u.key S' S → Ctr P g (xs.toList.map e ++ caps) S' (fun v S'' => v = u.v ∧ S'' = u.app S')) ∧ K u.v (u.app S)
        | _ => False) _ _ _ _
      have hx : ∀ e' : Operand → AV, (∀ x ∈ Op.operands (.call { callee := .value f, args := xs, argTypes := ts }), e' x = e x) → e' f = e f ∧ xs.toList.map e' = xs.toList.map e := fun e' he => by
        refine ⟨he f (by simp [Op.operands, Call.operands]), List.map_congr_left fun x hx => he x ?_⟩
        simp only [Op.operands, Call.operands]
        simp at hx ⊢
        exact .inr hx
      generalize hf : e f = ef
      by_cases hq : ∃ g caps, ef = .fn (.func g) [] caps
      · obtain ⟨g, caps, rfl⟩ := hq
        refine ⟨∀ S', agree u.rd u.key S' S → Ctr P g (xs.toList.map e ++ caps) S' (fun v S'' => v = u.v ∧ S'' = u.app S'), fun _ => u.v, u.wr.map (fun x => (x.1, x.2.1, fun _ => (x.2.2.1, x.2.2.2))), ?_, fun e' S' he hS' K => ?_⟩
        · right; show _ = u.key; unfold CR.key Chg.key; cases u.wr <;> rfl
        · obtain ⟨h1, h2⟩ := hx e' he
          simp only [h1, h2, hf]
          have hA : ∀ X : St, agree u.rd u.key X S' ↔ agree u.rd u.key X S := fun X => ⟨fun h => h.trans hS', fun h => h.trans hS'.symm⟩
          have hB : ∀ g, Chg.app (u.wr.map (fun x => (x.1, x.2.1, fun _ => (x.2.2.1, x.2.2.2)))) g S' = u.app S' := fun g => by unfold CR.app Chg.app; cases u.wr <;> rfl
          simp only [hA, hB, forall_const]
      · refine ⟨False, fun _ => .junk, none, .inl rfl, fun e' S' he hS' K => ?_⟩
        obtain ⟨h1, h2⟩ := hx e' he
        simp only [h1, hf, false_and, iff_false]
        split
        · rename_i g caps; exact fun _ => hq ⟨_, _, rfl⟩
        · simp
    | builtin b =>
      obtain ⟨l, rfl⟩ : ∃ l : List Operand, xs = l.toArray := ⟨xs.toList, by simp⟩
      obtain ⟨ts, rfl⟩ : ∃ l : List TypeId, ts = l.toArray := ⟨ts.toList, by simp⟩
      cases b with
      | append =>
        rcases l with _ | ⟨b, _ | ⟨x, _ | ⟨_, _⟩⟩⟩ <;> try exact nf_false
        rcases ts with _ | ⟨T, _ | ⟨T', _ | ⟨_, _⟩⟩⟩ <;> try exact nf_false
        show NF (fun e S K => T = T' ∧ vAppend P rg (d.getD 0) T (e b) (e x) S K) _ _ _ _
        have hE : fpo rg (d.getD 0) u (.call { callee := .builtin .append, args := [b, x].toArray, argTypes := [T, T'].toArray }) e = (match e x with | .sl _ r k _ _ _ => [(r, k)] | _ => [], match e b with | .sl _ r k _ _ _ => some (r, k) | _ => some (rg, d.getD 0)) := rfl
        rw [hE]
        have hop : ∀ e' : Operand → AV, (∀ y ∈ Op.operands (.call { callee := .builtin .append, args := [b, x].toArray, argTypes := [T, T'].toArray }), e' y = e y) → e' b = e b ∧ e' x = e x := fun e' he => ⟨he b (by simp [Op.operands, Call.operands]), he x (by simp [Op.operands, Call.operands])⟩
        have hno : (∀ (e' : Operand → AV) (S' : St), (∀ y ∈ Op.operands (.call { callee := .builtin .append, args := [b, x].toArray, argTypes := [T, T'].toArray }), e' y = e y) → agree (match e x with | .sl _ r k _ _ _ => [(r, k)] | _ => []) (match e b with | .sl _ r k _ _ _ => some (r, k) | _ => some (rg, d.getD 0)) S' S → ∀ K, ¬ (T = T' ∧ vAppend P rg (d.getD 0) T (e' b) (e' x) S' K)) →
            NF (fun e S K => T = T' ∧ vAppend P rg (d.getD 0) T (e b) (e x) S K) (Op.operands (.call { callee := .builtin .append, args := [b, x].toArray, argTypes := [T, T'].toArray })) (match e x with | .sl _ r k _ _ _ => [(r, k)] | _ => [], match e b with | .sl _ r k _ _ _ => some (r, k) | _ => some (rg, d.getD 0)) e S :=
          fun h => ⟨False, fun _ => .junk, none, .inl rfl, fun e' S' he hS' K => by simp only [false_and, iff_false]; exact h e' S' he hS' K⟩
        have hview : ∀ S', agree (match e x with | .sl _ r k _ _ _ => [(r, k)] | _ => []) (match e b with | .sl _ r k _ _ _ => some (r, k) | _ => some (rg, d.getD 0)) S' S → view S' (e x) = view S (e x) := fun S' hS' => view_congr fun kk r k g off n hx => by
          have := hS'.1 (r, k)
          simp only [hx] at this
          exact this (by simp)
        cases hd : td P T with
        | slice el =>
          cases hv : view S (e x) with
          | none =>
            exact hno fun e' S' he hS' K h => by
              obtain ⟨h1, h2⟩ := hop e' he
              simp only [vAppend, hd, h2, hview S' hS', hv] at h
              exact h.2
          | some ys =>
            cases hb : e b with
            | nil =>
              refine ⟨T = T' ∧ (tyok P el = true ∧ (ys.all fun x => allOne x.cells && (x.cells.length == (zav P el).cells.length)) = true) ∧ ys.length * bts P el ≤ 140737488355328 ∧ ys.length ≤ 9223372036854775807,
                fun g => .sl (zav P el).cells.length rg (d.getD 0) g 0 ys.length, some (rg, d.getD 0, fun g => (.arr (zav P el).cells.length ys, g)), .inr rfl, fun e' S' he hS' K => ?_⟩
              obtain ⟨h1, h2⟩ := hop e' he
              rw [hb] at h1
              have h3 := hview S' (by rw [hb]; exact hS')
              simp only [vAppend, hd, h2, h3, hv, h1, Chg.app, and_assoc]
            | sl kk r k' g off n =>
              cases hS : S r k' with
              | none =>
                exact hb ▸ hno fun e' S' he hS' K h => by
                  obtain ⟨h1, h2⟩ := hop e' he
                  have h4 := hS'.2 (r, k') (by simp only [hb])
                  simp only [vAppend, hd, h2, hview S' hS', hv, h1, hb, h4, hS] at h
                  exact h.2.2
              | some p =>
                obtain ⟨ob, g'⟩ := p
                cases ob with
                | mp sh a m =>
                  exact hb ▸ hno fun e' S' he hS' K h => by
                    obtain ⟨h1, h2⟩ := hop e' he
                    have h4 := hS'.2 (r, k') (by simp only [hb])
                    simp only [vAppend, hd, h2, hview S' hS', hv, h1, hb, h4, hS] at h
                    exact h.2.2
                | arr kk' es =>
                  refine ⟨T = T' ∧ (tyok P el = true ∧ (ys.all fun x => allOne x.cells && (x.cells.length == (zav P el).cells.length)) = true) ∧ (g' = g ∧ off = 0 ∧ kk' = kk ∧ kk = (zav P el).cells.length ∧ n = es.length) ∧ ((es.length + ys.length) * bts P el ≤ 140737488355328 ∧ es.length + ys.length ≤ 9223372036854775807),
                    fun g => .sl kk r k' g 0 (es.length + ys.length), some (r, k', fun g => (.arr kk (es ++ ys), g)), .inr rfl, fun e' S' he hS' K => ?_⟩
                  obtain ⟨h1, h2⟩ := hop e' he
                  rw [hb] at h1
                  have h3 := hview S' (by rw [hb]; exact hS')
                  have h4 := hS'.2 (r, k') rfl
                  simp only [vAppend, hd, h2, h3, hv, h1, h4, hS, Chg.app, and_assoc]
            | _ =>
              exact hb ▸ hno fun e' S' he hS' K h => by
                obtain ⟨h1, h2⟩ := hop e' he
                simp only [vAppend, hd, h2, hview S' hS', hv, h1, hb] at h
                exact h.2.2
        | _ =>
          exact hno fun e' S' he hS' K h => by
            simp only [vAppend, hd] at h
            exact h.2
      | len =>
        rcases l with _ | ⟨x, _ | ⟨_, _⟩⟩ <;> try exact nf_false
        rcases ts with _ | ⟨T, _ | ⟨_, _⟩⟩ <;> try exact nf_false
        refine nf_quiet (F := fun e S K => vLenS P T (e x) S K) (fun e' S' he hS => ?_) (nfq_lenS ..)
        have h1 := he x (by simp [Op.operands, Call.operands])
        simp only [h1]
        rw [vLenS_congr (S := S)]
        intro r k g hx
        have h2 := hS.1 (r, k)
        simp only [fpo, hx] at h2
        exact h2 (by simp)
      | max =>
        rcases l with _ | ⟨x, _ | ⟨y, _ | ⟨_, _⟩⟩⟩ <;> try exact nf_false
        refine nf_quiet (F := fun e _ K => (match e x, e y with | .int k m, .int _ n => K (.int k (if m < n then n else m)) | _, _ => False)) (fun e' S' he _ => by simp only [he x (by simp [Op.operands, Call.operands]), he y (by simp [Op.operands, Call.operands])]) ?_
        generalize e x = a
        generalize e y = b
        cases a <;> cases b <;> first | exact nfq_one _ | exact nfq_false
      | min =>
        rcases l with _ | ⟨x, _ | ⟨y, _ | ⟨z, _ | ⟨_, _⟩⟩⟩⟩ <;> try exact nf_false
        · refine nf_quiet (F := fun e _ K => (match e x, e y with | .int k m, .int _ n => K (.int k (if n < m then n else m)) | _, _ => False)) (fun e' S' he _ => by simp only [he x (by simp [Op.operands, Call.operands]), he y (by simp [Op.operands, Call.operands])]) ?_
          generalize e x = a
          generalize e y = b
          cases a <;> cases b <;> first | exact nfq_one _ | exact nfq_false
        · refine nf_quiet (F := fun e _ K => (match e x, e y, e z with | .int k m, .int _ n, .int _ q => K (.int k (if q < (if n < m then n else m) then q else (if n < m then n else m))) | _, _, _ => False)) (fun e' S' he _ => by simp only [he x (by simp [Op.operands, Call.operands]), he y (by simp [Op.operands, Call.operands]), he z (by simp [Op.operands, Call.operands])]) ?_
          generalize e x = a
          generalize e y = b
          generalize e z = c
          cases a <;> try exact nfq_false
          cases b <;> try exact nfq_false
          cases c <;> first | exact nfq_one _ | exact nfq_false
      | _ => exact nf_false
  | _ => exact nf_false
end Go.Gg
namespace Go.Gg
/-- A change of one place: region, key, object, generation. -/
abbrev WE := Nat × Nat × GObj × Nat
def appL : List WE → St → St
  | [], S => S
  | x :: m, S => (appL m S).set x.1 x.2.1 x.2.2.1 x.2.2.2
/-- What is read, and what is written. -/
abbrev Eff2 := List Key × List Key
/-- The choices of generations. -/
abbrev Gen := Nat → Nat
/-- What a call comes to, told ahead: its value, what it looks at, what it writes; or that a row is given for good at once. -/
structure CR2 where
  v : Gen → AV
  rd : List Key
  wk : List Key
  wr : Gen → List WE
  pl : Bool
def agree2 (l : List Key) (S' S : St) : Prop := ∀ p ∈ l, S' p.1 p.2 = S p.1 p.2
theorem agree2.refl (l : List Key) (S : St) : agree2 l S S := fun _ _ => rfl
theorem agree2.trans {l : List Key} {S S' S'' : St} (h : agree2 l S S') (h' : agree2 l S' S'') : agree2 l S S'' := fun p hp => (h p hp).trans (h' p hp)
theorem agree2.symm {l : List Key} {S S' : St} (h : agree2 l S S') : agree2 l S' S := fun p hp => (h p hp).symm
theorem set_comm {S : St} {r k r' k' g g' : Nat} {o o' : GObj} (h : ¬ (r = r' ∧ k = k')) : (S.set r k o g).set r' k' o' g' = (S.set r' k' o' g').set r k o g := by
  funext x y
  simp only [St.set]
  by_cases h1 : x = r' ∧ y = k'
  · rw [if_pos h1, if_neg (fun h2 => h ⟨h2.1.symm.trans h1.1, h2.2.symm.trans h1.2⟩), if_pos h1]
  · rw [if_neg h1, if_neg h1]
theorem appL_set {x : WE} : ∀ {m : List WE} {S : St}, (∀ y ∈ m, ¬ (x.1 = y.1 ∧ x.2.1 = y.2.1)) → appL m (S.set x.1 x.2.1 x.2.2.1 x.2.2.2) = (appL m S).set x.1 x.2.1 x.2.2.1 x.2.2.2
  | [], _, _ => rfl
  | y :: m, S, h => by
    have h1 := h y (by simp)
    show (appL m (S.set x.1 x.2.1 x.2.2.1 x.2.2.2)).set y.1 y.2.1 y.2.2.1 y.2.2.2 = ((appL m S).set y.1 y.2.1 y.2.2.1 y.2.2.2).set x.1 x.2.1 x.2.2.1 x.2.2.2
    rw [appL_set (fun z hz => h z (by simp [hz])), set_comm h1]
theorem appL_comm {b : List WE} {S : St} : ∀ {a : List WE}, (∀ x ∈ a, ∀ y ∈ b, ¬ (x.1 = y.1 ∧ x.2.1 = y.2.1)) → appL b (appL a S) = appL a (appL b S)
  | [], _ => rfl
  | x :: a, h => by
    show appL b ((appL a S).set x.1 x.2.1 x.2.2.1 x.2.2.2) = (appL a (appL b S)).set x.1 x.2.1 x.2.2.1 x.2.2.2
    rw [appL_set (fun y hy => h x (by simp) y hy), appL_comm (fun z hz y hy => h z (by simp [hz]) y hy)]
theorem appL_agree {l : List Key} {S : St} : ∀ {m : List WE}, (∀ x ∈ m, (x.1, x.2.1) ∉ l) → agree2 l (appL m S) S
  | [], _ => agree2.refl l S
  | x :: m, h => fun p hp => by
    show (if p.1 = x.1 ∧ p.2 = x.2.1 then some (x.2.2.1, x.2.2.2) else appL m S p.1 p.2) = S p.1 p.2
    rw [if_neg (fun hc => h x (by simp) (by
      have : p = (x.1, x.2.1) := Prod.ext hc.1 hc.2
      rw [← this]; exact hp))]
    exact appL_agree (fun y hy => h y (by simp [hy])) p hp
def jcr : CR := ⟨.junk, [], none⟩
def lcr : CR := ⟨.list [], [], none⟩
def fpo2 (rg k : Nat) (u : CR2) (o : Op) (e : Operand → AV) : Eff2 := match o with
  | .call { callee := .value _, args := _, argTypes := _ } => (u.rd, u.wk)
  | .buildSlice .. => ([], bif u.pl then [] else [(rg, k)])
  | _ => ((fpo rg k jcr o e).1, (fpo rg k jcr o e).2.toList)
/-- One operation, a call's outcome told ahead. -/
def vd2 (P : Program) (rg : Nat) (u : CR2) (d : Option Nat) (o : Op) (e : Operand → AV) (S : St) (K : AV → St → Prop) : Prop := match o with
  | .call { callee := .value f, args := xs, argTypes := _ } => match e f with
    | .fn (.func g) [] caps => ((∀ γ, ∀ x ∈ u.wr γ, (x.1, x.2.1) ∈ u.wk) ∧ ∀ S', agree2 u.rd S' S → agree2 u.wk S' S → Ctr P g (xs.toList.map e ++ caps) S' (fun v S'' => ∃ γ, v = u.v γ ∧ S'' = appL (u.wr γ) S')) ∧ ∀ γ, K (u.v γ) (appL (u.wr γ) S)
    | _ => False
  | .buildSlice T len parts => vd P rg (bif u.pl then lcr else jcr) d (.buildSlice T len parts) e S K
  | o => vd P rg jcr d o e S K
def NF2 (F : (Operand → AV) → St → (AV → St → Prop) → Prop) (xs : Array Operand) (E : Eff2) (e : Operand → AV) (S : St) : Prop :=
  ∃ (c : Prop) (v : Gen → AV) (ch : Gen → List WE), (c → ∀ γ, ∀ x ∈ ch γ, (x.1, x.2.1) ∈ E.2) ∧ ∀ (e' : Operand → AV) (S' : St), (∀ x ∈ xs, e' x = e x) → agree2 E.1 S' S → agree2 E.2 S' S → ∀ K, F e' S' K ↔ c ∧ ∀ γ, K (v γ) (appL (ch γ) S')
theorem NF.to2 {F : (Operand → AV) → St → (AV → St → Prop) → Prop} {xs : Array Operand} {l : List Key} {w : Option Key} {e : Operand → AV} {S : St} (h : NF F xs (l, w) e S) : NF2 F xs (l, w.toList) e S := by
  obtain ⟨c, v, ch, hk, hF⟩ := h
  refine ⟨c, fun γ => v (γ 0), fun γ => match ch with | none => [] | some (r, k, f) => [(r, k, (f (γ 0)).1, (f (γ 0)).2)], fun _ γ x hx => ?_, fun e' S' he h1 h2 K => ?_⟩
  · cases ch with
    | none => simp at hx
    | some y =>
      obtain ⟨r, k, f⟩ := y
      obtain rfl : x = (r, k, (f (γ 0)).1, (f (γ 0)).2) := by simpa using hx
      rcases hk with hk | hk
      · cases hk
      · rw [← (show some (r, k) = w from hk)]; simp
  · rw [hF e' S' he ⟨h1, fun p hp => h2 p (show p ∈ w.toList by rw [show w = some p from hp]; simp)⟩ K]
    refine and_congr_right fun _ => ⟨fun h γ => ?_, fun h g => ?_⟩
    · have := h (γ 0)
      cases ch <;> exact this
    · have := h (fun _ => g)
      cases ch <;> exact this
theorem nf_same {P : Program} {rg : Nat} {u : CR2} {d : Option Nat} {o : Op} {e : Operand → AV} {S : St} {c : CR} (h1 : ∀ e S K, vd2 P rg u d o e S K = vd P rg c d o e S K) (h2 : fpo2 rg (d.getD 0) u o e = ((fpo rg (d.getD 0) c o e).1, (fpo rg (d.getD 0) c o e).2.toList)) :
    NF2 (fun e S K => vd2 P rg u d o e S K) o.operands (fpo2 rg (d.getD 0) u o e) e S := by
  have h3 : (fun (e : Operand → AV) (S : St) (K : AV → St → Prop) => vd2 P rg u d o e S K) = fun e S K => vd P rg c d o e S K := by
    funext e S K; exact h1 e S K
  rw [h2, h3]
  exact NF.to2 (nf_op P rg c d o e S)
theorem nf_op2 (P : Program) (rg : Nat) (u : CR2) (d : Option Nat) (o : Op) (e : Operand → AV) (S : St) : NF2 (fun e S K => vd2 P rg u d o e S K) o.operands (fpo2 rg (d.getD 0) u o e) e S := by
  cases o with
  | buildSlice T len parts =>
    obtain ⟨uv, rd, wk, wr, pl⟩ := u
    cases pl
    · exact nf_same (c := jcr) (fun _ _ _ => rfl) rfl
    · exact nf_same (c := lcr) (fun _ _ _ => rfl) rfl
  | call c =>
    obtain ⟨callee, xs, ts⟩ := c
    cases callee with
    | invoke r m => exact nf_same (c := jcr) (fun _ _ _ => rfl) rfl
    | builtin b => exact nf_same (c := jcr) (fun _ _ _ => rfl) rfl
    | value f =>
      show NF2 (fun e S K => match e f with
        | .fn (.func g) [] caps => ((∀ γ, ∀ x ∈ u.wr γ, (x.1, x.2.1) ∈ u.wk) ∧ ∀ S', agree2 u.rd S' S → agree2 u.wk S' S → Ctr P g (xs.toList.map e ++ caps) S' (fun v S'' => ∃ γ, v = u.v γ ∧ S'' = appL (u.wr γ) S')) ∧ ∀ γ, K (u.v γ) (appL (u.wr γ) S)
        | _ => False) _ (u.rd, u.wk) _ _
      have hx : ∀ e' : Operand → AV, (∀ x ∈ Op.operands (.call { callee := .value f, args := xs, argTypes := ts }), e' x = e x) → e' f = e f ∧ xs.toList.map e' = xs.toList.map e := fun e' he => by
        refine ⟨he f (by simp [Op.operands, Call.operands]), List.map_congr_left fun x hx => he x ?_⟩
        simp only [Op.operands, Call.operands]
        simp at hx ⊢
        exact .inr hx
      generalize hf : e f = ef
      by_cases hq : ∃ g caps, ef = .fn (.func g) [] caps
      · obtain ⟨g, caps, rfl⟩ := hq
        refine ⟨(∀ γ, ∀ x ∈ u.wr γ, (x.1, x.2.1) ∈ u.wk) ∧ ∀ S', agree2 u.rd S' S → agree2 u.wk S' S → Ctr P g (xs.toList.map e ++ caps) S' (fun v S'' => ∃ γ, v = u.v γ ∧ S'' = appL (u.wr γ) S'), u.v, u.wr, fun hc => hc.1, fun e' S' he h1' h2' K => ?_⟩
        obtain ⟨h1, h2⟩ := hx e' he
        simp only [h1, h2, hf]
        have hA : ∀ X : St, agree2 u.rd X S' ↔ agree2 u.rd X S := fun X => ⟨fun h => h.trans h1', fun h => h.trans h1'.symm⟩
        have hB : ∀ X : St, agree2 u.wk X S' ↔ agree2 u.wk X S := fun X => ⟨fun h => h.trans h2', fun h => h.trans h2'.symm⟩
        simp only [hA, hB]
      · refine ⟨False, fun _ => .junk, fun _ => [], fun h => h.elim, fun e' S' he h1' h2' K => ?_⟩
        obtain ⟨h1, h2⟩ := hx e' he
        simp only [h1, hf, false_and, iff_false]
        split
        · rename_i g caps; exact fun _ => hq ⟨_, _, rfl⟩
        · simp
  | _ => exact nf_same (c := jcr) (fun _ _ _ => rfl) rfl
end Go.Gg
namespace Go.Gg
theorem fpo_congr {rg k : Nat} {u : CR} {o : Op} {e e' : Operand → AV} (h : ∀ x ∈ o.operands, e' x = e x) : fpo rg k u o e' = fpo rg k u o e := by
  cases o with
  | load T x => simp only [fpo, h x (by simp [Op.operands])]
  | store T a x => simp only [fpo, h a (by simp [Op.operands])]
  | lookup T x i ok => simp only [fpo, h x (by simp [Op.operands])]
  | mapUpdate T m i x => simp only [fpo, h m (by simp [Op.operands])]
  | insert T m i x => simp only [fpo, h m (by simp [Op.operands])]
  | call c =>
    obtain ⟨callee, xs, ts⟩ := c
    cases callee with
    | builtin b =>
      obtain ⟨l, rfl⟩ : ∃ l : List Operand, xs = l.toArray := ⟨xs.toList, by simp⟩
      cases b with
      | append =>
        rcases l with _ | ⟨b, _ | ⟨x, _ | ⟨_, _⟩⟩⟩ <;> try rfl
        simp only [fpo, h b (by simp [Op.operands, Call.operands]), h x (by simp [Op.operands, Call.operands])]
      | len =>
        rcases l with _ | ⟨x, _ | ⟨_, _⟩⟩ <;> try rfl
        simp only [fpo, h x (by simp [Op.operands, Call.operands])]
      | _ => rfl
    | _ => rfl
  | _ => rfl
theorem fpo2_congr {rg k : Nat} {u : CR2} {o : Op} {e e' : Operand → AV} (h : ∀ x ∈ o.operands, e' x = e x) : fpo2 rg k u o e' = fpo2 rg k u o e := by
  have h1 := fpo_congr (rg := rg) (k := k) (u := jcr) h
  cases o with
  | buildSlice => rfl
  | call c =>
    obtain ⟨callee, xs, ts⟩ := c
    cases callee with
    | value f => rfl
    | _ => simp only [fpo2, h1]
  | _ => simp only [fpo2, h1]
def vdG (P : Program) (rg : Nat) (us : Nat → CR2) (ops : List Oper) (j : Nat) (o : Oper) (t : Env) (S : St) (C : Env → St → Prop) : Prop :=
  match o.guard with
  | none => vd2 P rg (us j) o.dst o.op (ev t) S (fun v S' => C (updo t o.dst v) S')
  | some (g, want) => match (ops[g]?).bind (·.dst) with
    | some d => match t d with
      | .bool b => if b = want then vd2 P rg (us j) o.dst o.op (ev t) S (fun v S' => C (updo t o.dst v) S') else C (updo t o.dst (.tuple [])) S
      | .tuple [] => C (updo t o.dst (.tuple [])) S
      | _ => False
    | none => False
def fpG (rg : Nat) (us : Nat → CR2) (ops : List Oper) (j : Nat) (o : Oper) (t : Env) : Eff2 :=
  match o.guard with
  | none => fpo2 rg (o.dst.getD 0) (us j) o.op (ev t)
  | some (g, want) => match (ops[g]?).bind (·.dst) with
    | some d => match t d with
      | .bool b => if b = want then fpo2 rg (o.dst.getD 0) (us j) o.op (ev t) else ([], [])
      | _ => ([], [])
    | none => ([], [])
theorem ev_congr {ops : List Oper} {o : Oper} {t t' : Env} (h : ∀ d ∈ o.looksAt ops.toArray, t' d = t d) : ∀ x ∈ o.op.operands, ev t' x = ev t x := by
  intro x hx
  cases x with
  | tmp i => exact h i (List.mem_append_left _ (List.mem_filterMap.2 ⟨.tmp i, by simpa using hx, rfl⟩))
  | _ => rfl
theorem guard_congr {ops : List Oper} {o : Oper} {t t' : Env} (h : ∀ d ∈ o.looksAt ops.toArray, t' d = t d) {g d : Nat} {want : Bool} (hg : o.guard = some (g, want)) (hd : (ops[g]?).bind (·.dst) = some d) : t' d = t d :=
  h d (List.mem_append_right _ (by simp [hg, hd]))
theorem fpG_congr {rg : Nat} {us : Nat → CR2} {ops : List Oper} {j : Nat} {o : Oper} {t t' : Env} (h : ∀ d ∈ o.looksAt ops.toArray, t' d = t d) : fpG rg us ops j o t' = fpG rg us ops j o t := by
  unfold fpG
  rw [fpo2_congr (ev_congr h)]
  cases hg : o.guard with
  | none => rfl
  | some gw =>
    obtain ⟨g, want⟩ := gw
    simp only []
    split
    · rename_i d hd; rw [guard_congr h hg hd]
    · rfl
theorem nf_guard (P : Program) (rg : Nat) (us : Nat → CR2) (ops : List Oper) (j : Nat) (o : Oper) (t : Env) (S : St) :
    ∃ (c : Prop) (v : Gen → AV) (ch : Gen → List WE), (c → ∀ γ, ∀ x ∈ ch γ, (x.1, x.2.1) ∈ (fpG rg us ops j o t).2) ∧ ∀ (t' : Env) (S' : St), (∀ d ∈ o.looksAt ops.toArray, t' d = t d) →
      agree2 (fpG rg us ops j o t).1 S' S → agree2 (fpG rg us ops j o t).2 S' S → ∀ C, vdG P rg us ops j o t' S' C ↔ c ∧ ∀ γ, C (updo t' o.dst (v γ)) (appL (ch γ) S') := by
  obtain ⟨c, v, ch, h1, h2⟩ := nf_op2 P rg (us j) o.dst o.op (ev t) S
  unfold fpG vdG
  cases hg : o.guard with
  | none => exact ⟨c, v, ch, h1, fun t' S' ht hS hS2 C => h2 (ev t') S' (ev_congr ht) hS hS2 _⟩
  | some gw =>
    obtain ⟨g, want⟩ := gw
    simp only []
    cases hd : (ops[g]?).bind (·.dst) with
    | none => exact ⟨False, v, fun _ => [], fun h => h.elim, fun _ _ _ _ _ => by simp⟩
    | some d =>
      simp only []
      have hgd : ∀ t' : Env, (∀ d ∈ o.looksAt ops.toArray, t' d = t d) → t' d = t d := fun t' ht => guard_congr ht hg hd
      cases htd : t d with
      | bool b =>
        by_cases hb : b = want
        · refine ⟨c, v, ch, by simp only [if_pos hb]; exact h1, fun t' S' ht hS hS2 C => ?_⟩
          simp only [if_pos hb] at hS hS2
          simp only [hgd t' ht, htd, if_pos hb]
          exact h2 (ev t') S' (ev_congr ht) hS hS2 _
        · refine ⟨True, fun _ => .tuple [], fun _ => [], fun _ γ x hx => by simp at hx, fun t' S' ht hS _ C => ?_⟩
          simp only [hgd t' ht, htd, if_neg hb, appL, true_and, forall_const]
      | tuple vs =>
        cases vs with
        | nil => exact ⟨True, fun _ => .tuple [], fun _ => [], fun _ γ x hx => by simp at hx, fun t' S' ht hS _ C => by simp only [hgd t' ht, htd, appL, true_and, forall_const]⟩
        | cons => exact ⟨False, v, fun _ => [], fun h => h.elim, fun t' S' ht _ _ C => by simp only [hgd t' ht, htd, false_and]⟩
      | _ => exact ⟨False, v, fun _ => [], fun h => h.elim, fun t' S' ht _ _ C => by simp only [hgd t' ht, htd, false_and]⟩
theorem vdG_mono {P : Program} {rg : Nat} {us : Nat → CR2} {ops : List Oper} {j : Nat} {o : Oper} {t : Env} {S : St} {C C' : Env → St → Prop} (h : vdG P rg us ops j o t S C) (hC : ∀ t S, C t S → C' t S) : vdG P rg us ops j o t S C' := by
  obtain ⟨c, v, ch, _, h2⟩ := nf_guard P rg us ops j o t S
  have h3 := h2 t S (fun _ _ => rfl) (agree2.refl _ S) (agree2.refl _ S)
  exact (h3 C').2 ⟨((h3 C).1 h).1, fun g => hC _ _ (((h3 C).1 h).2 g)⟩
/-! ### What stands before what -/
def ordB (ops : List Oper) (i j : Nat) : Bool := ((Region.before ops.toArray).getD j 0).testBit i
def apartE (a b : Eff2) : Prop := (∀ x ∈ a.2, x ∉ b.1 ∧ x ∉ b.2) ∧ ∀ y ∈ b.2, y ∉ a.1
abbrev Log := List (Nat × Eff2)
def cf (ops : List Oper) (pend : Log) (j : Nat) (E : Eff2) : Prop := ∀ p ∈ pend, ordB ops p.1 j = true ∨ apartE p.2 E
def drawOk1 (ops : List Oper) (M : Array Nat) (j : Nat) : Bool :=
  match ops[j]? with
  | none => true
  | some o => (o.after.all fun e => !Region.binds .any e || decide (e.on < j)) &&
      (List.range ops.length).all fun i => (!(M.getD j 0).testBit i || o.after.any fun e => Region.binds .any e && (e.on == i || (M.getD e.on 0).testBit i)) &&
        (i == j || (M.getD j 0).testBit i || (M.getD i 0).testBit j || match ops[i]? with | some oi => oi.apart ops.toArray o | none => true)
def drawOk (n : Nat) (ops : List Oper) : Bool :=
  (ops.all fun o => match o.dst with | some d => decide (d < n) | none => true) && (List.range ops.length).all (drawOk1 ops (Region.before ops.toArray))
theorem drawOk_dst {n : Nat} {ops : List Oper} (h : drawOk n ops = true) {o : Oper} (ho : o ∈ ops) {d : Nat} (hd : o.dst = some d) : d < n := by
  simp only [drawOk, Bool.and_eq_true, List.all_eq_true] at h
  have := h.1 o ho
  simpa [hd] using this
theorem drawOk_at {n : Nat} {ops : List Oper} (h : drawOk n ops = true) {j : Nat} {o : Oper} (ho : ops[j]? = some o) :
    (∀ e ∈ o.after, Region.binds .any e = true → e.on < j) ∧ ∀ i, i < ops.length → (ordB ops i j = true → ∃ e ∈ o.after, Region.binds .any e = true ∧ (e.on = i ∨ ordB ops i e.on = true)) ∧
      (i = j ∨ ordB ops i j = true ∨ ordB ops j i = true ∨ ∀ oi, ops[i]? = some oi → oi.apart ops.toArray o = true) := by
  simp only [drawOk, Bool.and_eq_true, List.all_eq_true, List.mem_range] at h
  have hj : j < ops.length := (List.getElem?_eq_some_iff.1 ho).1
  have h1 := h.2 j hj
  simp only [drawOk1, ho, Bool.and_eq_true, Array.all_eq_true_iff_forall_mem, List.all_eq_true, List.mem_range, Bool.or_eq_true, Bool.not_eq_true', decide_eq_true_eq] at h1
  refine ⟨fun e he hb => (h1.1 e he).resolve_left (by simp [hb]), fun i hi => ?_⟩
  obtain ⟨h2, h3⟩ := h1.2 i hi
  refine ⟨fun hij => ?_, ?_⟩
  · have hij' : ((Region.before ops.toArray).getD j 0).testBit i = true := hij
    have := h2.resolve_left (fun hf => by rw [hij'] at hf; cases hf)
    obtain ⟨e, he, hb⟩ := Array.any_eq_true'.1 this
    simp only [Bool.and_eq_true, Bool.or_eq_true, beq_iff_eq] at hb
    exact ⟨e, he, hb.1, hb.2⟩
  · rcases h3 with ((h3 | h3) | h3) | h3
    · exact .inl (by simpa using h3)
    · exact .inr (.inl h3)
    · exact .inr (.inr (.inl h3))
    · refine .inr (.inr (.inr fun oi hoi => ?_))
      rw [hoi] at h3
      exact h3
def DC (ops : List Oper) (listed : Array Bool) : Prop := ∀ j, listed.getD j false = true → ∀ i, i < ops.length → ordB ops i j = true → listed.getD i false = true
theorem getD_false_of {listed : Array Bool} {i : Nat} (h : listed.getD i true = false) : listed.getD i false = false := by
  rcases Nat.lt_or_ge i listed.size with h' | h'
  · simp [h'] at h ⊢; exact h
  · simp [Array.getElem?_eq_none h'] at h
theorem ready_dc {n : Nat} {ops : List Oper} (hok : drawOk n ops = true) {listed : Array Bool} (hdc : DC ops listed) {j : Nat} (hj : j ∈ Region.ready .any ops.toArray listed) : ∀ i, i < ops.length → ordB ops i j = true → listed.getD i false = true := by
  obtain ⟨h0, o, ho, hall⟩ := mem_ready.1 hj
  intro i hi hij
  have ho' : ops[j]? = some o := by simpa using ho
  obtain ⟨e, he, hb, h⟩ := ((drawOk_at hok ho').2 i hi).1 hij
  rcases h with h | h
  · subst h; exact hall e he hb
  · exact hdc e.on (hall e he hb) i hi h
theorem dc_set {n : Nat} {ops : List Oper} (hok : drawOk n ops = true) {listed : Array Bool} (hdc : DC ops listed) {j : Nat} (hj : j ∈ Region.ready .any ops.toArray listed) : DC ops (listed.setIfInBounds j true) := by
  intro k hk i hi hik
  by_cases hkj : j = k
  · subst hkj; exact getD_set_true (ready_dc hok hdc hj i hi hik)
  · rw [getD_set_ne false hkj] at hk
    exact getD_set_true (hdc k hk i hi hik)
/-! ### All orders -/
def AD (P : Program) (rg : Nat) (us : Nat → CR2) (ops : List Oper) (K : Env → St → Prop) (pend : Log) : Nat → Array Bool → Env → St → Prop
  | 0, listed, t, S => Region.ready .any ops.toArray listed = [] ∧ K t S
  | fuel + 1, listed, t, S => (Region.ready .any ops.toArray listed = [] → K t S) ∧ ∀ j o, ops[j]? = some o → j ∈ Region.ready .any ops.toArray listed →
      cf ops pend j (fpG rg us ops j o t) ∧ vdG P rg us ops j o t S (fun t' S' => AD P rg us ops K pend fuel (listed.setIfInBounds j true) t' S')
section
variable {P : Program} {rg : Nat} {us : Nat → CR2} {ops : List Oper} {K : Env → St → Prop}
theorem AD_pend {p : Nat × Eff2} {pend : Log} : ∀ (fuel : Nat) (listed : Array Bool) (t : Env) (S : St), AD P rg us ops K (p :: pend) fuel listed t S → AD P rg us ops K pend fuel listed t S
  | 0, _, _, _, h => h
  | fuel + 1, _, _, _, h => ⟨h.1, fun j o ho hj => ⟨fun q hq => (h.2 j o ho hj).1 q (List.mem_cons_of_mem _ hq), vdG_mono (h.2 j o ho hj).2 (fun t S => AD_pend fuel _ t S)⟩⟩
theorem updo_ne {t : Env} {d : Option Nat} {v : AV} {s : Nat} (h : ∀ e, d = some e → s ≠ e) : updo t d v s = t s := by
  cases d with
  | none => rfl
  | some e => simp only [updo, upd, if_neg (h e rfl)]
theorem updo_comm {t : Env} {d e : Option Nat} {v u : AV} (h : ∀ x, d = some x → e ≠ some x) : updo (updo t d v) e u = updo (updo t e u) d v := by
  cases d with
  | none => cases e <;> rfl
  | some d =>
    cases e with
    | none => rfl
    | some e =>
      have hne : d ≠ e := fun he => h d rfl (by rw [he])
      funext k
      simp only [updo, upd]
      by_cases h1 : k = e
      · subst h1; rw [if_pos rfl, if_neg (fun h => hne h.symm), if_pos rfl]
      · rw [if_neg h1, if_neg h1]
theorem AD_first {n : Nat} (hok : drawOk n ops = true) {i : Nat} {oi : Oper} (hoi : ops[i]? = some oi) {E : Eff2} : ∀ (fuel : Nat) (pend : Log) (listed : Array Bool) (t : Env) (S : St), DC ops listed → i ∈ Region.ready .any ops.toArray listed →
    E = fpG rg us ops i oi t → cf ops pend i E → vdG P rg us ops i oi t S (fun t' S' => AD P rg us ops K ((i, E) :: pend) fuel (listed.setIfInBounds i true) t' S') → AD P rg us ops K pend (fuel + 1) listed t S := by
  intro fuel
  induction fuel with
  | zero =>
    intro pend listed t S hdc hi hE hcf H
    refine ⟨fun h => (by rw [h] at hi; cases hi), fun j oj hoj hj => ?_⟩
    by_cases hji : j = i
    · subst hji
      obtain rfl : oi = oj := by rw [hoi] at hoj; exact Option.some.inj hoj
      exact ⟨hE ▸ hcf, vdG_mono H (fun t S => AD_pend _ _ t S)⟩
    · have := ready_mono hj hji
      obtain ⟨c, v, ch, _, h2⟩ := nf_guard P rg us ops i oi t S
      have h3 := ((h2 t S (fun _ _ => rfl) (agree2.refl _ S) (agree2.refl _ S) _).1 H).2 (fun _ => 0)
      rw [h3.1] at this
      cases this
  | succ fuel ih =>
    intro pend listed t S hdc hi hE hcf H
    refine ⟨fun h => (by rw [h] at hi; cases hi), fun j oj hoj hj => ?_⟩
    by_cases hji : j = i
    · subst hji
      obtain rfl : oi = oj := by rw [hoi] at hoj; exact Option.some.inj hoj
      exact ⟨hE ▸ hcf, vdG_mono H (fun t S => AD_pend _ _ t S)⟩
    · have hin : i < ops.length := (List.getElem?_eq_some_iff.1 hoi).1
      have hjn : j < ops.length := (List.getElem?_eq_some_iff.1 hoj).1
      have hiu := getD_false_of (mem_ready.1 hi).1
      have hju := getD_false_of (mem_ready.1 hj).1
      have hij : ¬ ordB ops i j = true := fun h => by have := ready_dc hok hdc hj i hin h; rw [hiu] at this; cases this
      have hjiO : ¬ ordB ops j i = true := fun h => by have := ready_dc hok hdc hi j hjn h; rw [hju] at this; cases this
      have hap : oi.apart ops.toArray oj = true := by
        rcases ((drawOk_at hok hoj).2 i hin).2 with h | h | h | h
        · exact absurd h.symm hji
        · exact absurd h hij
        · exact absurd h hjiO
        · exact h oi hoi
      obtain ⟨ap1, ap2, ap3⟩ := Oper.apart_spec hap
      obtain ⟨ci, vi, ei, ki, hi2⟩ := nf_guard P rg us ops i oi t S
      obtain ⟨cj, vj, ej, kj, hj2⟩ := nf_guard P rg us ops j oj t S
      have Hi := (hi2 t S (fun _ _ => rfl) (agree2.refl _ S) (agree2.refl _ S) _).1 H
      have ti : ∀ v, ∀ d ∈ oj.looksAt ops.toArray, updo t oi.dst v d = t d := fun v d hd => updo_ne (fun e he hde => ap1 e he (hde ▸ hd))
      have tj : ∀ v, ∀ d ∈ oi.looksAt ops.toArray, updo t oj.dst v d = t d := fun v d hd => updo_ne (fun e he hde => ap3 e he (hde ▸ hd))
      have hAE : apartE E (fpG rg us ops j oj t) := by
        have h1 := ((Hi.2 (fun _ => 0)).2 j oj hoj (ready_mono hj hji)).1 (i, E) (by simp)
        rw [fpG_congr (ti (vi (fun _ => 0)))] at h1
        exact h1.resolve_left hij
      rw [← hE] at ki hi2
      have ki := ki Hi.1
      have hcj : cf ops pend j (fpG rg us ops j oj t) := fun p hp => by
        have h1 := ((Hi.2 (fun _ => 0)).2 j oj hoj (ready_mono hj hji)).1 p (List.mem_cons_of_mem _ hp)
        rwa [fpG_congr (ti (vi (fun _ => 0)))] at h1
      have Hj : ∀ g, cj ∧ ∀ h, AD P rg us ops K ((i, E) :: pend) fuel ((listed.setIfInBounds i true).setIfInBounds j true) (updo (updo t oi.dst (vi g)) oj.dst (vj h)) (appL (ej h) (appL (ei g) S)) := fun g =>
        (hj2 _ _ (ti (vi g)) (appL_agree fun x hx => (hAE.1 _ (ki g x hx)).1) (appL_agree fun x hx => (hAE.1 _ (ki g x hx)).2) _).1 ((Hi.2 g).2 j oj hoj (ready_mono hj hji)).2
      have kj := kj (Hj (fun _ => 0)).1
      refine ⟨hcj, (hj2 t S (fun _ _ => rfl) (agree2.refl _ S) (agree2.refl _ S) _).2 ⟨(Hj (fun _ => 0)).1, fun h => ?_⟩⟩
      refine ih pend (listed.setIfInBounds j true) _ _ (dc_set hok hdc hj) (ready_mono hi (Ne.symm hji)) (hE.trans (fpG_congr (tj (vj h))).symm) hcf ?_
      refine (hi2 _ _ (tj (vj h)) (appL_agree fun x hx => hAE.2 _ (kj h x hx)) (appL_agree fun x hx hE2 => (hAE.1 _ hE2).2 (kj h x hx)) _).2 ⟨Hi.1, fun g => ?_⟩
      have := (Hj g).2 h
      rw [Array.setIfInBounds_comm _ _ (Ne.symm hji), updo_comm ap2, appL_comm (fun x hx y hy hc => (hAE.1 _ (ki g x hx)).2 (by rw [hc.1, hc.2]; exact kj h y hy))] at this
      exact this
end
end Go.Gg
namespace Go.Gg
def lg (j : Nat) (E : Eff2) (log : Log) : Log := match E with | ([], []) => log | E => (j, E) :: log
def vdT (P : Program) (rg : Nat) (us : Nat → CR2) (ops : List Oper) : List Oper → Nat → Log → Env → St → (Env → St → Prop) → Prop
  | [], _, _, t, S, K => K t S
  | o :: rest, j, log, t, S, K => match o.guard with
    | none => cf ops log j (fpo2 rg (o.dst.getD 0) (us j) o.op (ev t)) ∧ vd2 P rg (us j) o.dst o.op (ev t) S (fun v S' => vdT P rg us ops rest (j + 1) (lg j (fpo2 rg (o.dst.getD 0) (us j) o.op (ev t)) log) (updo t o.dst v) S' K)
    | some (g, want) => match (ops[g]?).bind (·.dst) with
      | some d => match t d with
        | .bool b => (b = want → cf ops log j (fpo2 rg (o.dst.getD 0) (us j) o.op (ev (upd t d (.bool want)))) ∧ vd2 P rg (us j) o.dst o.op (ev (upd t d (.bool want))) S
              (fun v S' => vdT P rg us ops rest (j + 1) (lg j (fpo2 rg (o.dst.getD 0) (us j) o.op (ev (upd t d (.bool want)))) log) (updo (upd t d (.bool want)) o.dst v) S' K)) ∧
            (b = !want → vdT P rg us ops rest (j + 1) log (updo (upd t d (.bool !want)) o.dst (.tuple [])) S K)
        | .tuple [] => vdT P rg us ops rest (j + 1) log (updo t o.dst (.tuple [])) S K
        | _ => False
      | none => False
section
variable {P : Program} {rg : Nat} {us : Nat → CR2} {ops : List Oper} {K : Env → St → Prop}
theorem cf_empty {log : Log} {j : Nat} : cf ops log j ([], []) := fun p _ => .inr (by
  obtain ⟨i, r, w⟩ := p
  simp [apartE])
theorem vdT_cons {o : Oper} {rest : List Oper} {j : Nat} {log : Log} {t : Env} {S : St} (h : vdT P rg us ops (o :: rest) j log t S K) :
    cf ops log j (fpG rg us ops j o t) ∧ vdG P rg us ops j o t S (fun t' S' => vdT P rg us ops rest (j + 1) (lg j (fpG rg us ops j o t) log) t' S' K) := by
  unfold vdT at h
  unfold fpG vdG
  cases hg : o.guard with
  | none => simp only [hg] at h; exact h
  | some gw =>
    obtain ⟨g, want⟩ := gw
    simp only [hg] at h
    simp only []
    cases hd : (ops[g]?).bind (·.dst) with
    | none => simp only [hd] at h
    | some d =>
      simp only [hd] at h
      simp only []
      cases hb : t d with
      | bool b =>
        simp only [hb] at h
        simp only []
        by_cases hw : b = want
        · have e : upd t d (.bool want) = t := upd_same (by rw [hb, hw])
          have := h.1 hw
          rw [e] at this
          simp only [if_pos hw]
          exact this
        · have hbn : b = !want := by cases b <;> cases want <;> simp_all
          have e : upd t d (.bool !want) = t := upd_same (by rw [hb, hbn])
          have := h.2 hbn
          rw [e] at this
          simp only [if_neg hw]
          exact ⟨cf_empty, this⟩
      | tuple vs =>
        cases vs with
        | nil => simp only [hb] at h; exact ⟨cf_empty, h⟩
        | cons => simp only [hb] at h
      | _ => simp only [hb] at h
theorem ord_lt {n : Nat} (hok : drawOk n ops = true) {i : Nat} (hi : i < ops.length) : ∀ j, j < ops.length → ordB ops i j = true → i < j := by
  intro j
  induction j using Nat.strongRecOn with
  | _ j ih =>
    intro hj hij
    have hoj : ops[j]? = some ops[j] := List.getElem?_eq_getElem hj
    obtain ⟨e, he, hb, h⟩ := ((drawOk_at hok hoj).2 i hi).1 hij
    have hlt := (drawOk_at hok hoj).1 e he hb
    rcases h with rfl | h
    · exact hlt
    · exact Nat.lt_trans (ih e.on hlt (by omega) h) hlt
theorem vdT_AD {n : Nat} (hok : drawOk n ops = true) : ∀ (rest : List Oper) (j : Nat) (log L : Log) (t : Env) (S : St) (listed : Array Bool), ops.drop j = rest → j ≤ ops.length → listed.size = ops.length → (∀ i, listed.getD i false = true ↔ i < j) →
    (∀ p ∈ L, p ∈ log ∨ p.2 = ([], [])) → vdT P rg us ops rest j log t S K → AD P rg us ops K L rest.length listed t S := by
  intro rest
  induction rest with
  | nil =>
    intro j log L t S listed hrest hj hsz hl hL h
    have hjl : ops.length ≤ j := by simpa using hrest
    refine ⟨?_, h⟩
    cases hr : Region.ready .any ops.toArray listed with
    | nil => rfl
    | cons k ks =>
      have hk : k ∈ Region.ready .any ops.toArray listed := by rw [hr]; simp
      obtain ⟨h0, o, ho, _⟩ := mem_ready.1 hk
      have hkl : k < ops.length := by have := (Array.getElem?_eq_some_iff.1 ho).1; simpa using this
      have := (hl k).2 (by omega)
      rw [getD_false_of h0] at this
      cases this
  | cons o rest ih =>
    intro j log L t S listed hrest hj hsz hl hL h
    have hjl : j < ops.length := by
      rcases Nat.lt_or_ge j ops.length with h | h
      · exact h
      · rw [List.drop_eq_nil_of_le h] at hrest; cases hrest
    have hoj : ops[j]? = some o := by
      have h0 : (ops.drop j)[0]? = (o :: rest)[0]? := by rw [hrest]
      simpa using h0
    obtain ⟨h1, h2⟩ := vdT_cons h
    have hdc : DC ops listed := fun a ha i hi hia => (hl i).2 (by
      have hal := (hl a).1 ha
      have := ord_lt hok hi a (by omega) hia
      omega)
    have hready : j ∈ Region.ready .any ops.toArray listed := mem_ready.2 ⟨by
      have : ¬ listed.getD j false = true := fun hc => by have := (hl j).1 hc; omega
      have hsj : j < listed.size := by omega
      simp [hsj] at this ⊢
      exact this, o, by simpa using hoj, fun e he hb => (hl e.on).2 ((drawOk_at hok hoj).1 e he hb)⟩
    refine AD_first hok hoj rest.length L listed t S hdc hready rfl ?_ (vdG_mono h2 fun t' S' h' => ?_)
    · intro p hp
      rcases hL p hp with hp | hp
      · exact h1 p hp
      · refine .inr ?_
        rw [hp]
        generalize fpG rg us ops j o t = E
        obtain ⟨r, w⟩ := E
        simp [apartE]
    · refine ih (j + 1) _ _ t' S' _ ?_ (by omega) (by simpa using hsz) ?_ ?_ h'
      · rw [List.drop_eq_getElem_cons hjl] at hrest
        exact (List.cons.inj hrest).2
      · intro i
        by_cases hij : j = i
        · subst hij
          simp [show j < listed.size by omega]
        · rw [getD_set_ne false hij, hl i]; omega
      · intro p hp
        rcases List.mem_cons.1 hp with rfl | hp
        · generalize fpG rg us ops j o t = E
          obtain ⟨r, w⟩ := E
          cases r with
          | nil =>
            cases w with
            | nil => exact .inr rfl
            | cons w ws => exact .inl (by simp [lg])
          | cons a r => exact .inl (by simp [lg])
        · rcases hL p hp with hp | hp
          · refine .inl ?_
            unfold lg
            split
            · exact hp
            · exact List.mem_cons_of_mem _ hp
          · exact .inr hp
theorem vd_sop {n : Nat} {u : CR2} {o : Oper} {t : Env} {S : St} {C : AV → St → Prop} (h : vd2 P rg u o.dst o.op (ev t) S C) : SOp P n o t S C := by
  obtain ⟨dst, op, ty, pos, after, guard⟩ := o
  cases op with
  | call c =>
    obtain ⟨callee, xs, ts⟩ := c
    cases callee with
    | value f =>
      refine vop_sound (rg := rg) ?_
      show (match ev t f with | .fn (.func g) [] caps => Ctr P g (xs.toList.map (ev t) ++ caps) S C | _ => False)
      simp only [vd2] at h
      generalize ev t f = ef at h ⊢
      by_cases hq : ∃ g caps, ef = .fn (.func g) [] caps
      · obtain ⟨g, caps, rfl⟩ := hq
        obtain ⟨⟨_, h1⟩, h2⟩ := h
        refine Ctr.mono (h1 S (agree2.refl _ S) (agree2.refl _ S)) ?_
        rintro v S' ⟨γ, rfl, rfl⟩
        exact h2 γ
      · exfalso
        split at h
        · exact hq ⟨_, _, rfl⟩
        · exact h
    | invoke r m => exact vop_sound (rg := rg) h
    | builtin b => exact vop_sound (rg := rg) h
  | buildSlice T len parts =>
    obtain ⟨uv, rd, wk, wr, pl⟩ := u
    cases pl
    · exact vop_sound (rg := rg) h
    · exact sop_buildList rfl h
  | _ => exact vop_sound (rg := rg) h
theorem AD_sound {n : Nat} (hok : drawOk n ops = true) {Q : Exit → Act → World → Prop} : ∀ (fuel : Nat) (L : Log) (listed : Array Bool) (t : Env) (S : St) (G : Ghost) (a : Act) (w : World), AD P rg us ops K L fuel listed t S → Rel G S w → TR n G t a → (∀ a w, lift n G K a w → Q .normal a w) →
    wpAny P .any ops.toArray Q fuel listed a w := by
  intro fuel
  induction fuel with
  | zero => intro L listed t S G a w h hr ht hQ; exact ⟨h.1, hQ a w ⟨t, S, G, h.2, Ghost.le.refl G, hr, ht⟩⟩
  | succ fuel ih =>
    intro L listed t S G a w h hr ht hQ
    refine ⟨fun hn => hQ a w ⟨t, S, G, h.1 hn, Ghost.le.refl G, hr, ht⟩, fun j hj => ?_⟩
    obtain ⟨_, o, ho, _⟩ := mem_ready.1 hj
    have hoj : ops[j]? = some o := by simpa using ho
    have hdo : ∀ d, o.dst = some d → d < n := fun d hd => drawOk_dst hok (List.mem_of_getElem? hoj) hd
    obtain ⟨_, h2⟩ := h.2 j o hoj hj
    unfold wpOp
    simp only [ho]
    have step : vd2 P rg (us j) o.dst o.op (ev t) S (fun v S' => AD P rg us ops K L fuel (listed.setIfInBounds j true) (updo t o.dst v) S') → o.wp P a w (wpAny P .any ops.toArray Q fuel (listed.setIfInBounds j true)) Q := fun hv =>
      vd_sop hv G a w _ Q hr ht (fun v av S' G' w' hk hle hr' hav => ih _ _ _ S' G' _ w' hk hr' ((ht.mono hle).put hdo hav) (fun a w hl => hQ a w (lift_mono hl hle)))
    unfold vdG at h2
    cases hg : o.guard with
    | none =>
      simp only [hg] at h2
      rw [if_pos (by simp [Region.wanted, hg])]
      exact .inl (step h2)
    | some gw =>
      obtain ⟨g, want⟩ := gw
      simp only [hg] at h2
      cases hd : (ops[g]?).bind (·.dst) with
      | none => simp only [hd] at h2
      | some d =>
        simp only [hd] at h2
        cases hb : t d with
        | bool b =>
          simp only [hb] at h2
          have hy := yields ht hd hb
          have hw : Region.wanted o (yielded ops.toArray a.tmps) = (b == want) := by simp only [Region.wanted, hg, hy]; cases b <;> cases want <;> rfl
          by_cases hbw : b = want
          · rw [if_pos (by rw [hw]; simp [hbw])]
            rw [if_pos hbw] at h2
            exact .inl (step h2)
          · rw [if_neg (by rw [hw]; simp [hbw])]
            rw [if_neg hbw] at h2
            exact ih _ _ _ S G _ w h2 hr (ht.put hdo (VR.undef G)) hQ
        | tuple vs =>
          cases vs with
          | nil =>
            simp only [hb] at h2
            have hy := yieldsU ht hd hb
            rw [if_neg (by simp [Region.wanted, hg, hy])]
            exact ih _ _ _ S G _ w h2 hr (ht.put hdo (VR.undef G)) hQ
          | cons => simp only [hb] at h2
        | _ => simp only [hb] at h2
theorem vdr_mk {n : Nat} {t : Env} {S : St} (rg : Nat) (us : Nat → CR2) (hok : drawOk n ops = true) (h : vdT P rg us ops ops 0 [] t S K) : vdr P n ops.toArray K t S := by
  intro G a w Q hr ht hQ
  have h1 := vdT_AD hok ops 0 [] [] t S (Array.replicate ops.length false) rfl (Nat.zero_le _) (by simp) (by intro i; simp [Array.getElem?_replicate]; split <;> simp) (fun p hp => by simp at hp) h
  have h2 := AD_sound hok ops.length [] _ t S G a w h1 hr ht hQ
  simpa using h2
/-! ### Equations -/
def jcr2 : CR2 := ⟨fun _ => .junk, [], [], fun _ => [], false⟩
/-- A call that leaves the store alone. -/
def pc (v : AV) : CR2 := ⟨fun _ => v, [], [], fun _ => [], false⟩
/-- A row given for good at once. -/
def plc : CR2 := ⟨fun _ => .junk, [], [], fun _ => [], true⟩
/-- A call with what it looks at and what it writes. -/
def wc (v : Gen → AV) (rd wk : List Key) (wr : Gen → List WE) : CR2 := ⟨v, rd, wk, wr, false⟩
def usOf : List (Nat × CR2) → Nat → CR2
  | [], _ => jcr2
  | (i, u) :: rest, j => if j = i then u else usOf rest j
variable {d : Option Nat} {t : Env} {S : St} {C : AV → St → Prop} {ty : TypeId} {pos : String} {after : Array Edge} {rest : List Oper} {j : Nat} {log : Log} {u : CR2}
def isVC (u : CR2) : Op → Bool | .call { callee := .value _, .. } => true | .buildSlice .. => u.pl | _ => false
theorem vd_vo {op : Op} (h : isVC u op = false) : vd2 P rg u d op (ev t) S C = vo P rg d op t S C := by
  cases op with
  | call c =>
    obtain ⟨callee, xs, ts⟩ := c
    cases callee with
    | value f => simp [isVC] at h
    | _ => rfl
  | buildSlice T len parts =>
    obtain ⟨uv, rd, wk, wr, pl⟩ := u
    cases pl
    · rfl
    · simp [isVC] at h
  | _ => rfl
theorem vdT_eq {op : Op} : vdT P rg us ops (⟨d, op, ty, pos, after, none⟩ :: rest) j log t S K = (cf ops log j (fpo2 rg (d.getD 0) (us j) op (ev t)) ∧ vd2 P rg (us j) d op (ev t) S (fun v S' => vdT P rg us ops rest (j + 1) (lg j (fpo2 rg (d.getD 0) (us j) op (ev t)) log) (updo t d v) S' K)) := rfl
theorem vdT_pure {op : Op} (h : fpo2 rg (d.getD 0) (us j) op (ev t) = ([], [])) (h' : isVC (us j) op = false) :
    vdT P rg us ops (⟨d, op, ty, pos, after, none⟩ :: rest) j log t S K = vo P rg d op t S (fun v S' => vdT P rg us ops rest (j + 1) log (updo t d v) S' K) := by
  rw [vdT_eq, h, vd_vo h']
  simp only [lg]
  exact propext ⟨fun h => h.2, fun h => ⟨cf_empty, h⟩⟩
theorem lg_ne {E : Eff2} (hE : E ≠ ([], [])) : lg j E log = (j, E) :: log := by
  unfold lg
  split
  · exact absurd rfl hE
  · rfl
theorem vdT_loud {op : Op} {E : Eff2} (h : fpo2 rg (d.getD 0) (us j) op (ev t) = E) (h' : isVC (us j) op = false) (hE : E ≠ ([], [])) :
    vdT P rg us ops (⟨d, op, ty, pos, after, none⟩ :: rest) j log t S K = (cf ops log j E ∧ vo P rg d op t S (fun v S' => vdT P rg us ops rest (j + 1) ((j, E) :: log) (updo t d v) S' K)) := by
  rw [vdT_eq, h, vd_vo h', lg_ne hE]
theorem vdT_call {f : Operand} {xs : List Operand} {ts : Array TypeId} : vdT P rg us ops (⟨d, .call { callee := .value f, args := xs.toArray, argTypes := ts }, ty, pos, after, none⟩ :: rest) j log t S K =
    (cf ops log j ((us j).rd, (us j).wk) ∧ (match ev t f with
      | .fn (.func g) [] caps => ((∀ γ, ∀ x ∈ (us j).wr γ, (x.1, x.2.1) ∈ (us j).wk) ∧ ∀ S', agree2 (us j).rd S' S → agree2 (us j).wk S' S → Ctr P g (xs.map (ev t) ++ caps) S' (fun v S'' => ∃ γ, v = (us j).v γ ∧ S'' = appL ((us j).wr γ) S')) ∧
          ∀ γ, vdT P rg us ops rest (j + 1) (lg j ((us j).rd, (us j).wk) log) (updo t d ((us j).v γ)) (appL ((us j).wr γ) S) K
      | _ => False)) := rfl
theorem vdT_some {op : Op} {g : Nat} {want : Bool} : vdT P rg us ops (⟨d, op, ty, pos, after, some (g, want)⟩ :: rest) j log t S K = (match (ops[g]?).bind (·.dst) with
      | some s => match t s with
        | .bool b => (b = want → vdT P rg us ops (⟨d, op, ty, pos, after, none⟩ :: rest) j log (upd t s (.bool want)) S K) ∧
            (b = !want → vdT P rg us ops rest (j + 1) log (updo (upd t s (.bool !want)) d (.tuple [])) S K)
        | .tuple [] => vdT P rg us ops rest (j + 1) log (updo t d (.tuple [])) S K
        | _ => False
      | none => False) := rfl
end
end Go.Gg
