/- An own logic over the kit's weakest preconditions, part Q: code and lists of operations, told by what they do; rules for them. Conditions: none. -/
import Derived.Test.YtonbnfgknijpoaaGgP
namespace Go.Gg
open Go.RowKit (Below)

/-- What code does, wherever the environment and the store fit. -/
def Vc (P : Program) (n : Nat) (c : Code) (Q : AK) (t : Env) (S : St) : Prop :=
  codeOk n c = true → ∀ (G : Ghost) (a : Act) (w : World), Rel G S w → TR n G t a → c.wp P (Q.lift n G) a w

section
variable {P : Program} {n : Nat} {Q : AK} {t : Env} {S : St}

theorem AK.lift_mono {Q : AK} {G G' : Ghost} (hg : G.le G') {e : Exit} {a : Act} {w : World} (h : Q.lift n G' e a w) : Q.lift n G e a w := by
  cases e <;> first | exact Gg.lift_mono h hg | exact h

theorem Vc.wk {c : Code} {t' : Env} {S' : St} (hw : EWk t S t' S') (h : Vc P n c Q t' S') : Vc P n c Q t S := fun hok G a w hr ht =>
  let ⟨G', a1, a2, a3⟩ := hw n G a w hr ht
  wp_mono (h hok G' a w a2 a3) (fun _ _ _ he => AK.lift_mono a1 he)
theorem Vc.of_vc {rg : Nat} {c : Code} (hm : P.follows .mixedOrders = true) (h : vc P n rg c Q t S) : Vc P n c Q t S := fun hok G a w hr ht => vc_sound hm c hok Q t S G a w h hr ht
theorem Vc.skip (h : Q.nrm t S) : Vc P n .skip Q t S := fun _ G _ _ hr ht => wp_skip ⟨t, S, G, h, Ghost.le.refl G, hr, ht⟩
theorem Vc.exit {id : Nat} (h : Q.ex id t S) : Vc P n (.exit id) Q t S := fun _ G _ _ hr ht => wp_exit ⟨t, S, G, h, Ghost.le.refl G, hr, ht⟩
theorem Vc.ret (h : Q.ret t S) : Vc P n .ret Q t S := fun _ G _ _ hr ht => wp_ret ⟨t, S, G, h, Ghost.le.refl G, hr, ht⟩
theorem Vc.seq {x y : Code} (h : Vc P n x { Q with nrm := Vc P n y Q } t S) : Vc P n (.seq x y) Q t S := by
  intro hok G a w hr ht
  simp only [codeOk, Bool.and_eq_true] at hok
  refine wp_seq (wp_mono (h hok.1 G a w hr ht) (fun e a w he => ?_))
  cases e with
  | normal =>
    obtain ⟨t', S', G', r, le, hr', ht'⟩ := he
    exact wp_mono (r hok.2 G' a w hr' ht') (fun _ _ _ he => AK.lift_mono le he)
  | exit id => exact he
  | ret => exact he
  | goto l => exact he
  | panic c => exact he
  | outgrown => exact he
theorem Vc.cond {c : Operand} {x y : Code} {v : Bool} (hc : ev t c = .bool v) (h1 : v = true → Vc P n x Q t S) (h2 : v = false → Vc P n y Q t S) : Vc P n (.cond c x y) Q t S := by
  intro hok G a w hr ht
  simp only [codeOk, Bool.and_eq_true] at hok
  have hcv := ht.eval c
  rw [hc] at hcv
  generalize he : a.eval c = cv at hcv
  cases hcv
  exact wp_cond_split he (fun hv => h1 hv hok.1 G a w hr ht) (fun hv => h2 hv hok.2 G a w hr ht)
theorem Vc.block {id : Nat} {c : Code} (h : Vc P n c { Q with ex := fun i t S => if i = id then Q.nrm t S else Q.ex i t S } t S) : Vc P n (.block id c) Q t S := by
  intro hok G a w hr ht
  refine wp_block (wp_mono (h hok G a w hr ht) (fun e a w he => ?_))
  cases e with
  | exit id' =>
    simp only [Exit.inBlock]
    obtain ⟨t', S', G', r, le, hr', ht'⟩ := he
    simp only at r
    split
    · rename_i hid; rw [if_pos hid] at r; exact ⟨t', S', G', r, le, hr', ht'⟩
    · rename_i hid; rw [if_neg hid] at r; exact ⟨t', S', G', r, le, hr', ht'⟩
  | normal => exact he
  | ret => exact he
  | goto l => exact he
  | panic c => exact he
  | outgrown => exact he
/-- A loop over a state of one's own: T and Z tell how the state is held. -/
theorem Vc.loop {σ : Type} {c : Code} (I : σ → Prop) (μ : σ → Nat) (T : σ → Env) (Z : σ → St) (x : σ) (hx : EWk t S (T x) (Z x)) (h0 : I x)
    (h : ∀ y, I y → Vc P n c { Q with nrm := fun t S => ∃ z, EWk t S (T z) (Z z) ∧ I z ∧ μ z < μ y } (T y) (Z y)) : Vc P n (.loop c) Q t S := by
  intro hok G a w hr ht
  obtain ⟨G0, g1, g2, g3⟩ := hx n G a w hr ht
  refine wp_loop_by (α := σ × Ghost) (fun x a w => I x.1 ∧ G.le x.2 ∧ Rel x.2 (Z x.1) w ∧ TR n x.2 (T x.1) a) (fun x => μ x.1) (x := (x, G0)) ⟨h0, g1, g2, g3⟩ ?_
  rintro ⟨y, G'⟩ a w ⟨hI, hle, hr, ht⟩
  refine wp_mono (h y hI hok G' a w hr ht) (fun e a w he => ?_)
  cases e with
  | normal =>
    obtain ⟨t', S', G2, ⟨z, z1, z2, z3⟩, le, hr', ht'⟩ := he
    obtain ⟨G3, b1, b2, b3⟩ := z1 n G2 a w hr' ht'
    exact ⟨(z, G3), ⟨z2, (hle.trans le).trans b1, b2, b3⟩, z3⟩
  | exit id => exact Gg.lift_mono he hle
  | ret => exact Gg.lift_mono he hle
  | goto l => exact he
  | panic c => exact he
  | outgrown => exact he
/-- What is known is cut down to a state of one's own. -/
theorem Vc.join {σ : Type} {c : Code} {t : Env} {S : St} (J : σ → Prop) (T : σ → Env) (Z : σ → St) (K : Env → St → Prop) (hK : ∀ y, J y → ∀ t S, EWk t S (T y) (Z y) → K t S)
    (h : Vc P n c { Q with nrm := fun t S => ∃ z, EWk t S (T z) (Z z) ∧ J z } t S) : Vc P n c { Q with nrm := K } t S := by
  intro hok G a w hr ht
  refine wp_mono (h hok G a w hr ht) (fun e a w he => ?_)
  cases e with
  | normal =>
    obtain ⟨t', S', G2, ⟨z, z1, z2⟩, le, hr', ht'⟩ := he
    exact ⟨t', S', G2, hK z z2 _ _ z1, le, hr', ht'⟩
  | exit id => exact he
  | ret => exact he
  | goto l => exact he
  | panic c => exact he
  | outgrown => exact he

theorem VR.undef (G : Ghost) : VR G (.tuple []) undef := .tuple [] #[] rfl (fun i h => by simp at h)
/-! ### Lists of operations -/
def Wl (P : Program) (n : Nat) (ops l : List Oper) (K : Env → St → Prop) (t : Env) (S : St) : Prop :=
  (∀ o ∈ l, ∀ d, o.dst = some d → d < n) → ∀ (G : Ghost) (a : Act) (w : World) (Q : Exit → Act → World → Prop), Rel G S w → TR n G t a → (∀ a w, lift n G K a w → Q .normal a w) → wpList P ops.toArray Q l a w

variable {ops rest : List Oper} {K : Env → St → Prop} {rg : Nat} {d : Option Nat} {op : Op} {ty : TypeId} {pos : String} {after : Array Edge}

theorem Wl.wk {l : List Oper} {t' : Env} {S' : St} (hw : EWk t S t' S') (h : Wl P n ops l K t' S') : Wl P n ops l K t S := fun hok G a w Q hr ht hQ =>
  let ⟨G', a1, a2, a3⟩ := hw n G a w hr ht
  h hok G' a w Q a2 a3 (fun a w hl => hQ a w (Gg.lift_mono hl a1))
theorem Wl.nil (h : K t S) : Wl P n ops [] K t S := fun _ G a w _ hr ht hQ => hQ a w ⟨t, S, G, h, Ghost.le.refl G, hr, ht⟩
theorem Wl.step {o : Oper} (rg : Nat) (hv : vop P rg o t S (fun v S' => Wl P n ops rest K (updo t o.dst v) S')) (hg : o.guard = none) : Wl P n ops (o :: rest) K t S := by
  intro hok G a w Q hr ht hQ
  have hdo := hok o (by simp)
  have hok2 : ∀ o ∈ rest, ∀ d, o.dst = some d → d < n := fun o ho => hok o (by simp [ho])
  unfold wpList
  rw [if_pos (by simp [Region.wanted, hg])]
  refine .inl (vop_sound hv G a w _ Q hr ht (fun v av S' G' w' hk hle hr' hav => ?_))
  exact hk hok2 G' _ w' Q hr' ((ht.mono hle).put hdo hav) (fun a w hl => hQ a w (Gg.lift_mono hl hle))
theorem Wl.cons (rg : Nat) (h : vo P rg d op t S (fun v S' => Wl P n ops rest K (updo t d v) S')) : Wl P n ops (⟨d, op, ty, pos, after, none⟩ :: rest) K t S := Wl.step rg h rfl
theorem Wl.guard {j g : Nat} {want b : Bool} (hd : (ops[j]?).bind (·.dst) = some g) (hb : t g = .bool b)
    (h1 : b = want → Wl P n ops (⟨d, op, ty, pos, after, none⟩ :: rest) K t S) (h2 : b = !want → Wl P n ops rest K (updo t d (.tuple [])) S) : Wl P n ops (⟨d, op, ty, pos, after, some (j, want)⟩ :: rest) K t S := by
  intro hok G a w Q hr ht hQ
  have hy := yields ht hd hb
  have hw : Region.wanted ⟨d, op, ty, pos, after, some (j, want)⟩ (yielded ops.toArray a.tmps) = (b == want) := by simp only [Region.wanted, hy]; cases b <;> cases want <;> rfl
  by_cases hbw : b = want
  · have := h1 hbw (fun o ho d hd => by
      rcases List.mem_cons.1 ho with e | e
      · subst e; exact hok _ List.mem_cons_self d hd
      · exact hok o (by simp [e]) d hd) G a w Q hr ht hQ
    unfold wpList at this ⊢
    rw [if_pos (by rw [hw]; simp [hbw])]
    rw [if_pos (by simp [Region.wanted])] at this
    exact this
  · unfold wpList
    rw [if_neg (by rw [hw]; simp [hbw])]
    have hbn : b = !want := by cases b <;> cases want <;> simp_all
    exact h2 hbn (fun o ho => hok o (by simp [ho])) G _ w Q hr (ht.put (hok _ List.mem_cons_self) (VR.undef G)) hQ
/-- The guard was not reached itself. -/
theorem Wl.guardU {j g : Nat} {want : Bool} (hd : (ops[j]?).bind (·.dst) = some g) (hb : t g = .tuple []) (h2 : Wl P n ops rest K (updo t d (.tuple [])) S) : Wl P n ops (⟨d, op, ty, pos, after, some (j, want)⟩ :: rest) K t S := by
  intro hok G a w Q hr ht hQ
  have h1 := ht.2.2 g
  rw [hb] at h1
  have hy : yielded ops.toArray a.tmps j = none := by
    generalize hv : a.tmps.getD g undef = v at h1
    cases h1 with
    | tuple _ xs q1 _ =>
    unfold yielded
    simp only [List.getElem?_toArray, hd]
    rw [Array.getD_eq_getD_getElem?] at hv
    cases hg : a.tmps[g]? with
    | none => simp [hg]
    | some x => rw [hg] at hv; simp at hv; subst hv; simp [hg]
  unfold wpList
  rw [if_neg (by simp [Region.wanted, hy])]
  exact h2 (fun o ho => hok o (by simp [ho])) G _ w Q hr (ht.put (hok _ List.mem_cons_self) (VR.undef G)) hQ
theorem Vc.region {id : Nat} {l : List Oper} (h : Wl P n l l Q.nrm t S) : Vc P n (.region id l.toArray false) Q t S := by
  intro hok G a w hr ht
  refine wp_region_list ?_
  have hd : ∀ o ∈ l, ∀ d, o.dst = some d → d < n := fun o ho d hd => by
    have := Array.all_eq_true_iff_forall_mem.1 hok o (by simpa using ho)
    simpa [hd] using this
  have := h hd G a w (Q.lift n G) hr ht (fun a w hl => hl)
  simpa using this
theorem Vc.drawn (hm : P.follows .mixedOrders = true) {id : Nat} {l : List Oper} (rg : Nat) (us : Nat → CR) (hok : drawOk n l = true) (h : vdT P rg us l l 0 [] t S Q.nrm) : Vc P n (.region id l.toArray true) Q t S := by
  intro _ G a w hr ht
  exact wp_region_any hm (vdr_mk rg us hok h G a _ (Q.lift n G) (hr.drawn _) ht (fun a w hl => hl))
end

/-! ### Entering -/
theorem enterV {P : Program} {f : FuncId} {fn : Func} {c : Code} {as : List AV} {S : St} {R : AV → St → Prop} {n : Nat} {rs : List ResultVar} (hf : P.funcs[f]? = some fn) (hb : fn.body = some c)
    (hn : fn.ntmps = n) (hrs : fn.results = rs.toArray) (hok : (callable P f && codeOk n c && decide (as.length ≤ n)) = true)
    (h : ∀ rg, (∀ k, S rg k = none) → Vc P n c ⟨retQ P rs R, fun _ _ _ => False, retQ P rs R⟩ (args as) S) : Ctr P f as S R := by
  subst hn
  simp only [Bool.and_eq_true, decide_eq_true_eq] at hok
  obtain ⟨⟨hc, hcode⟩, hlen⟩ := hok
  refine ⟨hc, fun G w vs hr hvs => ?_⟩
  obtain ⟨rg, hrg⟩ := hr.freshRegion
  have ht : TR fn.ntmps G (args as) { tmps := vs ++ Array.replicate (fn.ntmps - vs.size) undef, defers := [] } := by
    refine ⟨rfl, by
      have h0 : vs.size = as.length := hvs.1
      show (vs ++ Array.replicate (fn.ntmps - vs.size) undef).size = fn.ntmps
      simp only [Array.size_append, Array.size_replicate]; omega, fun i => ?_⟩
    unfold args
    rw [Array.getD_eq_getD_getElem?, List.getD_eq_getElem?_getD]
    by_cases hi : i < as.length
    · have hi' : i < vs.size := by have h0 : vs.size = as.length := hvs.1; omega
      rw [Array.getElem?_append_left hi', List.getElem?_eq_getElem hi, Array.getElem?_eq_getElem hi']
      exact hvs.2 i hi hi'
    · rw [List.getElem?_eq_none (by omega)]
      exact .junk _
  have hV := h rg hrg hcode G _ w hr ht
  refine calls_of_wp hf hb (wp_mono hV (fun e a w' he => ?_))
  have fin : lift fn.ntmps G (retQ P rs R) a w' → a.defers = [] ∧ ∃ v, (results fn a.tmps).run P w' = .ok v w' ∧ (∃ v' av S' G', Ending.returned v = .returned v' ∧ R av S' ∧ G.le G' ∧ Rel G' S' w' ∧ VR G' av v') := by
    rintro ⟨t', S', G', hk, hle, hr', ht'⟩
    refine ⟨ht'.1, ?_⟩
    have hrs' : fn.results.toList = rs := by rw [hrs]
    obtain ⟨xs, vs', h1, h2, h3, h4⟩ := results_sound hr' ht' rs _ hk
    have hrun : (results fn a.tmps).run P w' = .ok (if h : xs.length = 1 then xs[0] else .tuple xs.toArray) w' := by
      simp only [results, Array.mapM_eq_mapM_toList, Sem.run_bind, Sem.run_map, hrs']
      erw [h1]
      simp
    have hV : VR G' (vtup vs') (if h : xs.length = 1 then xs[0] else .tuple xs.toArray) := by
      by_cases h1 : xs.length = 1
      · rw [dif_pos h1]
        match vs', h3, h4 with
        | [v], _, h4 => exact h4 0 (by simp) (by omega)
        | [], h3, _ => exact absurd h3 (by simp only [List.length_nil]; omega)
        | _ :: _ :: _, h3, _ => exact absurd h3 (by simp only [List.length_cons]; omega)
      · rw [dif_neg h1]
        have : vtup vs' = .tuple vs' := by
          match vs', h3 with
          | [v], h3 => exact absurd h3 (by simp only [List.length_cons, List.length_nil]; omega)
          | [], _ => rfl
          | _ :: _ :: _, _ => rfl
        rw [this]
        exact .tuple _ _ (by simpa using h3) (fun i h h' => by simpa using h4 i h (by simpa using h'))
    obtain ⟨v2, S2, G2, hR, b1, b2, b3⟩ := h2 G' w' _ hr' hV
    exact ⟨_, hrun, _, v2, S2, G2, rfl, hR, hle.trans b1, b2, b3⟩
  cases e with
  | normal => exact fin he
  | ret => exact fin he
  | exit id => obtain ⟨_, _, _, h, _⟩ := he; exact h.elim
  | goto l => exact he.elim
  | panic c => exact he.elim
  | outgrown => exact he.elim
end Go.Gg
