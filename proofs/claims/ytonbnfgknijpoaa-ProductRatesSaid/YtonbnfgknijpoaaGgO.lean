/- An own logic over the kit's weakest preconditions, part O: a region that draws its order, walked once, in the text's order. Conditions: none. -/
import Derived.Test.YtonbnfgknijpoaaGgN
import Derived.KernelRfl
namespace Go.Gg

theorem fpo_congr {rg k : Nat} {u : CR} {o : Op} {e e' : Operand → AV} (h : ∀ x ∈ o.operands, e' x = e x) : fpo rg k u o e' = fpo rg k u o e := by
  cases o with
  | load T x => simp only [fpo, h x (by simp [Op.operands])]
  | store T a x => simp only [fpo, h a (by simp [Op.operands])]
  | call c =>
    obtain ⟨callee, xs, ts⟩ := c
    cases callee with
    | builtin b =>
      cases b <;> try rfl
      obtain ⟨l, rfl⟩ : ∃ l : List Operand, xs = l.toArray := ⟨xs.toList, by simp⟩
      rcases l with _ | ⟨b, _ | ⟨x, _ | ⟨_, _⟩⟩⟩ <;> try rfl
      simp only [fpo, h b (by simp [Op.operands, Call.operands]), h x (by simp [Op.operands, Call.operands])]
    | _ => rfl
  | _ => rfl

def vdG (P : Program) (rg : Nat) (us : Nat → CR) (ops : List Oper) (j : Nat) (o : Oper) (t : Env) (S : St) (C : Env → St → Prop) : Prop :=
  match o.guard with
  | none => vd P rg (us j) o.dst o.op (ev t) S (fun v S' => C (updo t o.dst v) S')
  | some (g, want) => match (ops[g]?).bind (·.dst) with
    | some d => match t d with
      | .bool b => if b = want then vd P rg (us j) o.dst o.op (ev t) S (fun v S' => C (updo t o.dst v) S') else C (updo t o.dst .junk) S
      | _ => False
    | none => False
def fpG (rg : Nat) (us : Nat → CR) (ops : List Oper) (j : Nat) (o : Oper) (t : Env) : Eff :=
  match o.guard with
  | none => fpo rg (o.dst.getD 0) (us j) o.op (ev t)
  | some (g, want) => match (ops[g]?).bind (·.dst) with
    | some d => match t d with
      | .bool b => if b = want then fpo rg (o.dst.getD 0) (us j) o.op (ev t) else ([], none)
      | _ => ([], none)
    | none => ([], none)

theorem ev_congr {ops : List Oper} {o : Oper} {t t' : Env} (h : ∀ d ∈ o.looksAt ops.toArray, t' d = t d) : ∀ x ∈ o.op.operands, ev t' x = ev t x := by
  intro x hx
  cases x with
  | tmp i => exact h i (List.mem_append_left _ (List.mem_filterMap.2 ⟨.tmp i, by simpa using hx, rfl⟩))
  | _ => rfl
theorem guard_congr {ops : List Oper} {o : Oper} {t t' : Env} (h : ∀ d ∈ o.looksAt ops.toArray, t' d = t d) {g d : Nat} {want : Bool} (hg : o.guard = some (g, want)) (hd : (ops[g]?).bind (·.dst) = some d) : t' d = t d :=
  h d (List.mem_append_right _ (by simp [hg, hd]))
theorem fpG_congr {rg : Nat} {us : Nat → CR} {ops : List Oper} {j : Nat} {o : Oper} {t t' : Env} (h : ∀ d ∈ o.looksAt ops.toArray, t' d = t d) : fpG rg us ops j o t' = fpG rg us ops j o t := by
  unfold fpG
  rw [fpo_congr (ev_congr h)]
  cases hg : o.guard with
  | none => rfl
  | some gw =>
    obtain ⟨g, want⟩ := gw
    simp only []
    split
    · rename_i d hd; rw [guard_congr h hg hd]
    · rfl

theorem nf_guard (P : Program) (rg : Nat) (us : Nat → CR) (ops : List Oper) (j : Nat) (o : Oper) (t : Env) (S : St) :
    ∃ (c : Prop) (v : Nat → AV) (ch : Chg), (ch.key = none ∨ ch.key = (fpG rg us ops j o t).2) ∧ ∀ (t' : Env) (S' : St), (∀ d ∈ o.looksAt ops.toArray, t' d = t d) →
      agree (fpG rg us ops j o t).1 (fpG rg us ops j o t).2 S' S → ∀ C, vdG P rg us ops j o t' S' C ↔ c ∧ ∀ g, C (updo t' o.dst (v g)) (ch.app g S') := by
  obtain ⟨c, v, ch, h1, h2⟩ := nf_op P rg (us j) o.dst o.op (ev t) S
  unfold fpG vdG
  cases hg : o.guard with
  | none => exact ⟨c, v, ch, h1, fun t' S' ht hS C => h2 (ev t') S' (ev_congr ht) hS _⟩
  | some gw =>
    obtain ⟨g, want⟩ := gw
    simp only []
    cases hd : (ops[g]?).bind (·.dst) with
    | none => exact ⟨False, v, none, .inl rfl, fun _ _ _ _ _ => by simp⟩
    | some d =>
      simp only []
      have hgd : ∀ t' : Env, (∀ d ∈ o.looksAt ops.toArray, t' d = t d) → t' d = t d := fun t' ht => guard_congr ht hg hd
      cases htd : t d with
      | bool b =>
        by_cases hb : b = want
        · refine ⟨c, v, ch, by simp only [if_pos hb]; exact h1, fun t' S' ht hS C => ?_⟩
          simp only [if_pos hb] at hS
          simp only [hgd t' ht, htd, if_pos hb]
          exact h2 (ev t') S' (ev_congr ht) hS _
        · refine ⟨True, fun _ => .junk, none, .inl rfl, fun t' S' ht hS C => ?_⟩
          simp only [hgd t' ht, htd, if_neg hb, Chg.app, true_and, forall_const]
      | _ => exact ⟨False, v, none, .inl rfl, fun t' S' ht _ C => by simp only [hgd t' ht, htd, false_and]⟩

theorem vdG_mono {P : Program} {rg : Nat} {us : Nat → CR} {ops : List Oper} {j : Nat} {o : Oper} {t : Env} {S : St} {C C' : Env → St → Prop} (h : vdG P rg us ops j o t S C) (hC : ∀ t S, C t S → C' t S) : vdG P rg us ops j o t S C' := by
  obtain ⟨c, v, ch, _, h2⟩ := nf_guard P rg us ops j o t S
  have h3 := h2 t S (fun _ _ => rfl) (agree.refl _ _ S)
  exact (h3 C').2 ⟨((h3 C).1 h).1, fun g => hC _ _ (((h3 C).1 h).2 g)⟩

/-! ### What stands before what -/
def ordB (ops : List Oper) (i j : Nat) : Bool := ((Region.before ops.toArray).getD j 0).testBit i
def apartE (a b : Eff) : Prop :=
  (match a.2 with | none => True | some x => x ∉ b.1 ∧ (match b.2 with | none => True | some y => x ≠ y)) ∧ (match b.2 with | none => True | some y => y ∉ a.1)
abbrev Log := List (Nat × Eff)
def cf (ops : List Oper) (pend : Log) (j : Nat) (E : Eff) : Prop := ∀ p ∈ pend, ordB ops p.1 j = true ∨ apartE p.2 E

def drawOk1 (ops : List Oper) (M : Array Nat) (j : Nat) : Bool :=
  match ops[j]? with
  | none => true
  | some o => (o.after.all fun e => !Region.binds .any e || decide (e.on < j)) &&
      (List.range ops.length).all fun i => (!(M.getD j 0).testBit i || o.after.any fun e => Region.binds .any e && (e.on == i || (M.getD e.on 0).testBit i)) &&
        (i == j || (M.getD j 0).testBit i || (M.getD i 0).testBit j || match ops[i]? with | some oi => oi.apart ops.toArray o | none => true)
def drawOk (n : Nat) (ops : List Oper) : Bool :=
  (ops.all fun o => match o.dst with | some d => decide (d < n) | none => true) && (List.range ops.length).all (drawOk1 ops (Region.before ops.toArray))

theorem drawOk_dst {n : Nat} {ops : List Oper} (h : drawOk n ops = true) {o : Oper} (ho : o ∈ ops) {d : Nat} (hd : o.dst = some d) : d < n := by
  simp only [drawOk, Bool.and_eq_true, List.all_eq_true] at h
  have := h.1 o ho
  simpa [hd] using this
theorem drawOk_at {n : Nat} {ops : List Oper} (h : drawOk n ops = true) {j : Nat} {o : Oper} (ho : ops[j]? = some o) :
    (∀ e ∈ o.after, Region.binds .any e = true → e.on < j) ∧ ∀ i, i < ops.length → (ordB ops i j = true → ∃ e ∈ o.after, Region.binds .any e = true ∧ (e.on = i ∨ ordB ops i e.on = true)) ∧
      (i = j ∨ ordB ops i j = true ∨ ordB ops j i = true ∨ ∀ oi, ops[i]? = some oi → oi.apart ops.toArray o = true) := by
  simp only [drawOk, Bool.and_eq_true, List.all_eq_true, List.mem_range] at h
  have hj : j < ops.length := (List.getElem?_eq_some_iff.1 ho).1
  have h1 := h.2 j hj
  simp only [drawOk1, ho, Bool.and_eq_true, Array.all_eq_true_iff_forall_mem, List.all_eq_true, List.mem_range, Bool.or_eq_true, Bool.not_eq_true', decide_eq_true_eq] at h1
  refine ⟨fun e he hb => (h1.1 e he).resolve_left (by simp [hb]), fun i hi => ?_⟩
  obtain ⟨h2, h3⟩ := h1.2 i hi
  refine ⟨fun hij => ?_, ?_⟩
  · have hij' : ((Region.before ops.toArray).getD j 0).testBit i = true := hij
    have := h2.resolve_left (fun hf => by rw [hij'] at hf; cases hf)
    obtain ⟨e, he, hb⟩ := Array.any_eq_true'.1 this
    simp only [Bool.and_eq_true, Bool.or_eq_true, beq_iff_eq] at hb
    exact ⟨e, he, hb.1, hb.2⟩
  · rcases h3 with ((h3 | h3) | h3) | h3
    · exact .inl (by simpa using h3)
    · exact .inr (.inl h3)
    · exact .inr (.inr (.inl h3))
    · refine .inr (.inr (.inr fun oi hoi => ?_))
      rw [hoi] at h3
      exact h3

def DC (ops : List Oper) (listed : Array Bool) : Prop := ∀ j, listed.getD j false = true → ∀ i, i < ops.length → ordB ops i j = true → listed.getD i false = true

theorem getD_false_of {listed : Array Bool} {i : Nat} (h : listed.getD i true = false) : listed.getD i false = false := by
  rcases Nat.lt_or_ge i listed.size with h' | h'
  · simp [h'] at h ⊢; exact h
  · simp [Array.getElem?_eq_none h'] at h
theorem ready_dc {n : Nat} {ops : List Oper} (hok : drawOk n ops = true) {listed : Array Bool} (hdc : DC ops listed) {j : Nat} (hj : j ∈ Region.ready .any ops.toArray listed) : ∀ i, i < ops.length → ordB ops i j = true → listed.getD i false = true := by
  obtain ⟨h0, o, ho, hall⟩ := mem_ready.1 hj
  intro i hi hij
  have ho' : ops[j]? = some o := by simpa using ho
  obtain ⟨e, he, hb, h⟩ := ((drawOk_at hok ho').2 i hi).1 hij
  rcases h with h | h
  · subst h; exact hall e he hb
  · exact hdc e.on (hall e he hb) i hi h
theorem dc_set {n : Nat} {ops : List Oper} (hok : drawOk n ops = true) {listed : Array Bool} (hdc : DC ops listed) {j : Nat} (hj : j ∈ Region.ready .any ops.toArray listed) : DC ops (listed.setIfInBounds j true) := by
  intro k hk i hi hik
  by_cases hkj : j = k
  · subst hkj; exact getD_set_true (ready_dc hok hdc hj i hi hik)
  · rw [getD_set_ne false hkj] at hk
    exact getD_set_true (hdc k hk i hi hik)

/-! ### All orders -/
def AD (P : Program) (rg : Nat) (us : Nat → CR) (ops : List Oper) (K : Env → St → Prop) (pend : Log) : Nat → Array Bool → Env → St → Prop
  | 0, listed, t, S => Region.ready .any ops.toArray listed = [] ∧ K t S
  | fuel + 1, listed, t, S => (Region.ready .any ops.toArray listed = [] → K t S) ∧ ∀ j o, ops[j]? = some o → j ∈ Region.ready .any ops.toArray listed →
      cf ops pend j (fpG rg us ops j o t) ∧ vdG P rg us ops j o t S (fun t' S' => AD P rg us ops K pend fuel (listed.setIfInBounds j true) t' S')

section
variable {P : Program} {rg : Nat} {us : Nat → CR} {ops : List Oper} {K : Env → St → Prop}
theorem AD_pend {p : Nat × Eff} {pend : Log} : ∀ (fuel : Nat) (listed : Array Bool) (t : Env) (S : St), AD P rg us ops K (p :: pend) fuel listed t S → AD P rg us ops K pend fuel listed t S
  | 0, _, _, _, h => h
  | fuel + 1, _, _, _, h => ⟨h.1, fun j o ho hj => ⟨fun q hq => (h.2 j o ho hj).1 q (List.mem_cons_of_mem _ hq), vdG_mono (h.2 j o ho hj).2 (fun t S => AD_pend fuel _ t S)⟩⟩

theorem updo_ne {t : Env} {d : Option Nat} {v : AV} {s : Nat} (h : ∀ e, d = some e → s ≠ e) : updo t d v s = t s := by
  cases d with
  | none => rfl
  | some e => simp only [updo, upd, if_neg (h e rfl)]
theorem updo_comm {t : Env} {d e : Option Nat} {v u : AV} (h : ∀ x, d = some x → e ≠ some x) : updo (updo t d v) e u = updo (updo t e u) d v := by
  cases d with
  | none => cases e <;> rfl
  | some d =>
    cases e with
    | none => rfl
    | some e =>
      have hne : d ≠ e := fun he => h d rfl (by rw [he])
      funext k
      simp only [updo, upd]
      by_cases h1 : k = e
      · subst h1; rw [if_pos rfl, if_neg (fun h => hne h.symm), if_pos rfl]
      · rw [if_neg h1, if_neg h1]
theorem app_comm {a b : Chg} {g h : Nat} {S : St} (hk : a.key = none ∨ b.key = none ∨ a.key ≠ b.key) : b.app h (a.app g S) = a.app g (b.app h S) := by
  cases a with
  | none => cases b <;> rfl
  | some a =>
    cases b with
    | none => rfl
    | some b =>
      obtain ⟨r, k, f⟩ := a
      obtain ⟨r', k', f'⟩ := b
      have hne : ¬ (r = r' ∧ k = k') := fun hc => by rcases hk with h | h | h <;> simp_all [Chg.key]
      funext x y
      simp only [Chg.app, St.set]
      by_cases h1 : x = r' ∧ y = k'
      · rw [if_pos h1, if_neg (fun h2 => hne ⟨h2.1.symm.trans h1.1, h2.2.symm.trans h1.2⟩), if_pos h1]
      · rw [if_neg h1, if_neg h1]
theorem app_agree {a : Chg} {g : Nat} {S : St} {l : List Key} {w : Option Key} (h : ∀ x, a.key = some x → x ∉ l ∧ w ≠ some x) : agree l w (a.app g S) S := by
  cases a with
  | none => exact agree.refl l w S
  | some a =>
    obtain ⟨r, k, f⟩ := a
    obtain ⟨h1, h2⟩ := h (r, k) rfl
    refine ⟨fun p hp => ?_, fun p hp => ?_⟩
    · simp only [Chg.app, St.set]
      rw [if_neg (fun hc => h1 (by obtain ⟨a, b⟩ := p; obtain ⟨rfl, rfl⟩ := hc; exact hp))]
    · simp only [Chg.app, St.set]
      rw [if_neg (fun hc => h2 (by obtain ⟨a, b⟩ := p; obtain ⟨rfl, rfl⟩ := hc; exact hp))]

theorem apartE_keys {a b : Eff} (h : apartE a b) {x : Option Key} {y : Option Key} (hx : x = none ∨ x = a.2) (hy : y = none ∨ y = b.2) :
    (∀ k, x = some k → k ∉ b.1 ∧ b.2 ≠ some k) ∧ (∀ k, y = some k → k ∉ a.1 ∧ a.2 ≠ some k) ∧ (x = none ∨ y = none ∨ x ≠ y) := by
  obtain ⟨ar, aw⟩ := a
  obtain ⟨br, bw⟩ := b
  simp only [apartE] at h
  cases aw with
  | none =>
    have hx' : x = none := by simpa using hx
    subst hx'
    cases bw with
    | none => have hy' : y = none := by simpa using hy
              subst hy'; simp
    | some bw => rcases hy with rfl | rfl <;> simp_all
  | some aw =>
    cases bw with
    | none =>
      have hy' : y = none := by simpa using hy
      subst hy'
      rcases hx with rfl | rfl <;> simp_all
    | some bw =>
      simp only [] at h
      obtain ⟨⟨h1, h2⟩, h3⟩ := h
      have h2' : ¬ bw = aw := fun hc => h2 hc.symm
      rcases hx with rfl | rfl <;> rcases hy with rfl | rfl <;> simp_all

theorem AD_first {n : Nat} (hok : drawOk n ops = true) {i : Nat} {oi : Oper} (hoi : ops[i]? = some oi) {E : Eff} : ∀ (fuel : Nat) (pend : Log) (listed : Array Bool) (t : Env) (S : St), DC ops listed → i ∈ Region.ready .any ops.toArray listed →
    E = fpG rg us ops i oi t → cf ops pend i E → vdG P rg us ops i oi t S (fun t' S' => AD P rg us ops K ((i, E) :: pend) fuel (listed.setIfInBounds i true) t' S') → AD P rg us ops K pend (fuel + 1) listed t S := by
  intro fuel
  induction fuel with
  | zero =>
    intro pend listed t S hdc hi hE hcf H
    refine ⟨fun h => (by rw [h] at hi; cases hi), fun j oj hoj hj => ?_⟩
    by_cases hji : j = i
    · subst hji
      obtain rfl : oi = oj := by rw [hoi] at hoj; exact Option.some.inj hoj
      exact ⟨hE ▸ hcf, vdG_mono H (fun t S => AD_pend _ _ t S)⟩
    · have := ready_mono hj hji
      obtain ⟨c, v, ch, _, h2⟩ := nf_guard P rg us ops i oi t S
      have h3 := ((h2 t S (fun _ _ => rfl) (agree.refl _ _ S) _).1 H).2 0
      rw [h3.1] at this
      cases this
  | succ fuel ih =>
    intro pend listed t S hdc hi hE hcf H
    refine ⟨fun h => (by rw [h] at hi; cases hi), fun j oj hoj hj => ?_⟩
    by_cases hji : j = i
    · subst hji
      obtain rfl : oi = oj := by rw [hoi] at hoj; exact Option.some.inj hoj
      exact ⟨hE ▸ hcf, vdG_mono H (fun t S => AD_pend _ _ t S)⟩
    · have hin : i < ops.length := (List.getElem?_eq_some_iff.1 hoi).1
      have hjn : j < ops.length := (List.getElem?_eq_some_iff.1 hoj).1
      have hiu := getD_false_of (mem_ready.1 hi).1
      have hju := getD_false_of (mem_ready.1 hj).1
      have hij : ¬ ordB ops i j = true := fun h => by have := ready_dc hok hdc hj i hin h; rw [hiu] at this; cases this
      have hjiO : ¬ ordB ops j i = true := fun h => by have := ready_dc hok hdc hi j hjn h; rw [hju] at this; cases this
      have hap : oi.apart ops.toArray oj = true := by
        rcases ((drawOk_at hok hoj).2 i hin).2 with h | h | h | h
        · exact absurd h.symm hji
        · exact absurd h hij
        · exact absurd h hjiO
        · exact h oi hoi
      obtain ⟨ap1, ap2, ap3⟩ := Oper.apart_spec hap
      obtain ⟨ci, vi, ei, ki, hi2⟩ := nf_guard P rg us ops i oi t S
      obtain ⟨cj, vj, ej, kj, hj2⟩ := nf_guard P rg us ops j oj t S
      have Hi := (hi2 t S (fun _ _ => rfl) (agree.refl _ _ S) _).1 H
      have ti : ∀ v, ∀ d ∈ oj.looksAt ops.toArray, updo t oi.dst v d = t d := fun v d hd => updo_ne (fun e he hde => ap1 e he (hde ▸ hd))
      have tj : ∀ v, ∀ d ∈ oi.looksAt ops.toArray, updo t oj.dst v d = t d := fun v d hd => updo_ne (fun e he hde => ap3 e he (hde ▸ hd))
      have hAE : apartE E (fpG rg us ops j oj t) := by
        have h1 := ((Hi.2 0).2 j oj hoj (ready_mono hj hji)).1 (i, E) (by simp)
        rw [fpG_congr (ti (vi 0))] at h1
        exact h1.resolve_left hij
      rw [← hE] at ki hi2
      obtain ⟨q1, q2, q3⟩ := apartE_keys hAE ki kj
      have hcj : cf ops pend j (fpG rg us ops j oj t) := fun p hp => by
        have h1 := ((Hi.2 0).2 j oj hoj (ready_mono hj hji)).1 p (List.mem_cons_of_mem _ hp)
        rwa [fpG_congr (ti (vi 0))] at h1
      have Hj : ∀ g, cj ∧ ∀ h, AD P rg us ops K ((i, E) :: pend) fuel ((listed.setIfInBounds i true).setIfInBounds j true) (updo (updo t oi.dst (vi g)) oj.dst (vj h)) (ej.app h (ei.app g S)) := fun g =>
        (hj2 _ _ (ti (vi g)) (app_agree q1) _).1 ((Hi.2 g).2 j oj hoj (ready_mono hj hji)).2
      refine ⟨hcj, (hj2 t S (fun _ _ => rfl) (agree.refl _ _ S) _).2 ⟨(Hj 0).1, fun h => ?_⟩⟩
      refine ih pend (listed.setIfInBounds j true) _ _ (dc_set hok hdc hj) (ready_mono hi (Ne.symm hji)) (hE.trans (fpG_congr (tj (vj h))).symm) hcf ?_
      refine (hi2 _ _ (tj (vj h)) (app_agree q2) _).2 ⟨Hi.1, fun g => ?_⟩
      have := (Hj g).2 h
      rw [Array.setIfInBounds_comm _ _ (Ne.symm hji), updo_comm ap2, app_comm q3] at this
      exact this
end
end Go.Gg
