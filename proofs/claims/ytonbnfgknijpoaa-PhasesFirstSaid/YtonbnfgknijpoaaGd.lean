/- An own logic over the kit's weakest preconditions, part T: rows within boxes, closures. Conditions: none. -/
import Derived.Test.YtonbnfgknijpoaaGc
namespace Go.Gg
/-- The contents of an object, seen otherwise in one ghost state. -/
def OWG (G : Ghost) : GObj → GObj → Prop
  | .arr kk es, .arr kk' es' => kk = kk' ∧ es.length = es'.length ∧ ∀ i (h : i < es.length) (h' : i < es'.length), es[i].cells.length = es'[i].cells.length ∧ ∀ j (h1 : j < es[i].cells.length) (h2 : j < es'[i].cells.length) z, VR G es[i].cells[j] z → VR G es'[i].cells[j] z
  | _, _ => False
theorem Rel.owG {G : Ghost} {S : St} {w : World} (h : Rel G S w) {r k g : Nat} {o o' : GObj} (hS : S r k = some (o, g)) (ho : OWG G o o') : Rel G (S.set r k o' g) w := by
  refine h.remap fun r' k' o2 g2 e => ?_
  simp only [St.set] at e
  split at e
  · rename_i hc
    obtain ⟨rfl, rfl⟩ := hc
    cases e
    refine ⟨o, hS, fun L hL => ?_⟩
    obtain ⟨L', hL', hobj, _⟩ := h.obj _ _ _ _ hS
    obtain rfl : L' = L := by rw [hL] at hL'; exact (Option.some.inj hL').symm
    cases o with
    | mp => exact ho.elim
    | arr kk es =>
    cases o' with
    | mp => exact ho.elim
    | arr kk' es' =>
    obtain ⟨rfl, hl, hv⟩ := ho
    obtain ⟨h1, h2, h3, h3', h4, h5⟩ := hobj
    refine ⟨h1, h2, by omega, h3', fun i hi => ?_, fun hc => ?_⟩
    · rw [← (hv i (by omega) hi).1]; exact h4 i (by omega)
    · obtain ⟨row, a1, a2, a3⟩ := h5 hc
      refine ⟨row, a1, a2, fun i hi j hj => ?_⟩
      have hvi := hv i (by omega) hi
      obtain ⟨z, z1, z2⟩ := a3 i (by omega) j (by rw [hvi.1]; exact hj)
      exact ⟨z, z1, hvi.2 j _ hj z z2⟩
  · exact ⟨o2, e, fun L hL => by
      obtain ⟨L', hL', hobj, _⟩ := h.obj _ _ _ _ e
      obtain rfl : L' = L := by rw [hL] at hL'; exact (Option.some.inj hL').symm
      exact hobj⟩
/-- A nil slice in a box becomes an empty row of the call's own. -/
theorem Vc.matB {P : Program} {n : Nat} {c : Code} {Q : AK} {t : Env} {S0 : St} {rg : Nat} {l : Objs} {a : AV} {b : Nat → AV} {kk g0 : Nat} (k0 i k k1 : Nat) (hS : lkp l k0 = some (.arr kk [a], g0)) (hc : a.cells[i]? = some .nil) (hk : 0 < k1) (hne : k ≠ k0)
    (hb : (fun g => (b g).cells) = fun g => a.cells.set i (.sl k1 rg k g 0 0)) (h : ∀ g, Vc P n c Q t (stL S0 rg ((k0, .arr kk [b g], g0) :: (k, .arr k1 [], g) :: l))) : Vc P n c Q t (stL S0 rg l) := by
  intro hok G w0 w hr ht
  obtain ⟨g, G', q1, q2, q3⟩ := hr.mat rg k k1 hk
  have hS2 : ((stL S0 rg l).set rg k (.arr k1 []) g) rg k0 = some (.arr kk [a], g0) := by
    simp only [St.set]
    rw [if_neg (fun hh => hne hh.2.symm), stL_at]
    exact hS
  have hcb : (b g).cells = a.cells.set i (.sl k1 rg k g 0 0) := congrFun hb g
  have q4 := q2.owG (o' := .arr kk [b g]) hS2 ⟨rfl, rfl, fun x h1 h2 => by
    have : x = 0 := by simpa using h1
    subst this
    simp only [List.getElem_cons_zero]
    refine ⟨by rw [hcb, List.length_set], fun j h3 h4 z hz => ?_⟩
    have e : (b g).cells[j] = (a.cells.set i (.sl k1 rg k g 0 0))[j]'(by rw [List.length_set]; exact h3) := by simp only [hcb]
    rw [e, List.getElem_set]
    split
    · rename_i hij
      subst hij
      rw [List.getElem?_eq_getElem h3] at hc
      rw [Option.some.inj hc] at hz
      cases hz
      exact q3
    · exact hz⟩
  rw [stL_set, stL_set] at q4
  exact wp_mono (h g hok G' w0 w q4 (ht.mono q1)) (fun _ _ _ he => AK.lift_mono q1 he)
/-- The elements of a row, seen otherwise one by one. -/
def OWA : List AV → List AV → Prop
  | [], [] => True
  | a :: l, b :: m => VWC a b ∧ OWA l m
  | _, _ => False
theorem owan : OWA [] [] := trivial
theorem owac {a b : AV} {l m : List AV} (h : VWC a b) (h' : OWA l m) : OWA (a :: l) (b :: m) := ⟨h, h'⟩
theorem OWA.len : ∀ {l m : List AV}, OWA l m → l.length = m.length
  | [], [], _ => rfl
  | _ :: _, _ :: _, h => by rw [List.length_cons, List.length_cons, OWA.len h.2]
  | [], _ :: _, h => h.elim
  | _ :: _, [], h => h.elim
theorem OWA.at : ∀ {l m : List AV}, OWA l m → ∀ i (h1 : i < l.length) (h2 : i < m.length), VWC l[i] m[i]
  | _ :: _, _ :: _, h, 0, _, _ => h.1
  | _ :: _, _ :: _, h, i + 1, h1, h2 => OWA.at h.2 i (by simpa using h1) (by simpa using h2)
  | [], _, _, _, h1, _ => absurd h1 (by simp)
  | _ :: _, [], h, _, _, _ => h.elim
theorem OW.all {kk : Nat} {l m : List AV} (h : OWA l m) : OW (.arr kk l) (.arr kk m) := ⟨rfl, h.len.symm, fun i h1 h2 => h.at i h1 h2⟩
/-- An element of an array in a box, at a known place. -/
theorem o_idxA {P : Program} {rg : Nat} {t : Env} {S : St} {K : AV → St → Prop} {x i : Operand} {kd : IntKind} {m : Int} {T e : TypeId} {d : Option Nat} {r k g off c off' len s : Nat} (hT : td P T = .array len e) (hs : sz P e = s) (h0 : 0 < s) (hx : ev t x = .ptr r k g 0 off) (hi : ev t i = .int kd m)
    (hm : m = (c : Int)) (hc : c < len) (ho : off + c * s = off') (h : K (.ptr r k g 0 off') S) : vo P rg d (.indexAddr T x i) t S K := by
  rw [vo_indexAddr, hx, hi, vIdxAddr, hT]
  subst hm
  refine ⟨⟨by omega, by omega⟩, by rw [hs]; exact h0, ?_⟩
  rw [hs, Int.toNat_natCast, ho]
  exact h
end Go.Gg
namespace Go.Gg
theorem dk_n : DK [] := trivial
theorem dk_c {p : Nat × Nat} {X : List (Nat × Nat)} (h : ∀ q ∈ X, ¬ (q.1 = p.1 ∧ q.2 = p.2)) (h' : DK X) : DK (p :: X) := ⟨h, h'⟩
theorem ni_n {p : Nat × Nat} : ∀ q ∈ ([] : List (Nat × Nat)), ¬ (q.1 = p.1 ∧ q.2 = p.2) := fun _ h => by simp at h
theorem ni_c {p q : Nat × Nat} {X : List (Nat × Nat)} (h : ¬ (q.1 = p.1 ∧ q.2 = p.2)) (h' : ∀ q ∈ X, ¬ (q.1 = p.1 ∧ q.2 = p.2)) : ∀ q' ∈ q :: X, ¬ (q'.1 = p.1 ∧ q'.2 = p.2) := fun q' hq => by
  rcases List.mem_cons.1 hq with e | e
  · subst e; exact h
  · exact h' q' e
theorem ni_o {r r' a b : Nat} (h : Nat.beq b a = false) : ¬ (((r, b) : Nat × Nat).1 = ((r', a) : Nat × Nat).1 ∧ ((r, b) : Nat × Nat).2 = ((r', a) : Nat × Nat).2) := fun hh => ne_nbeq h hh.2
theorem ni_a {r r' a b : Nat} (h : r ≠ r') : ¬ (((r, b) : Nat × Nat).1 = ((r', a) : Nat × Nat).1 ∧ ((r, b) : Nat × Nat).2 = ((r', a) : Nat × Nat).2) := fun hh => h hh.1
theorem ni_s {p q : Nat × Nat} (h : ¬ (p.1 = q.1 ∧ p.2 = q.2)) : ¬ (q.1 = p.1 ∧ q.2 = p.2) := fun hh => h ⟨hh.1.symm, hh.2.symm⟩
theorem dk_at {p q : Nat × Nat} : ∀ {X : List (Nat × Nat)} (i j : Nat), DK X → Nat.ble (i + 1) j = true → X[i]? = some p → X[j]? = some q → ¬ (q.1 = p.1 ∧ q.2 = p.2)
  | [], i, _, _, _, h, _ => by simp at h
  | _ :: _, 0, 0, _, hij, _, _ => by simp at hij
  | x :: X, 0, j + 1, hd, _, h1, h2 => by
    simp at h1; subst h1
    exact hd.1 q (List.mem_of_getElem? (by simpa using h2))
  | x :: X, i + 1, 0, _, hij, _, _ => by simp at hij
  | x :: X, i + 1, j + 1, hd, hij, h1, h2 => dk_at i j hd.2 (by simpa using hij) (by simpa using h1) (by simpa using h2)
theorem dk_ne {a b c d : Nat} (h : ¬ (((a, b) : Nat × Nat).1 = ((c, d) : Nat × Nat).1 ∧ ((a, b) : Nat × Nat).2 = ((c, d) : Nat × Nat).2)) : (a = c ∧ b = d) = False := eq_false h
theorem dk_ne' {a b c d : Nat} (h : ¬ (((a, b) : Nat × Nat).1 = ((c, d) : Nat × Nat).1 ∧ ((a, b) : Nat × Nat).2 = ((c, d) : Nat × Nat).2)) : (c = a ∧ d = b) = False := eq_false fun hh => h ⟨hh.1.symm, hh.2.symm⟩
theorem sx_n {S : St} : stX S [] = S := rfl
theorem sx_c {S : St} {r k g : Nat} {o : GObj} {X : Exts} (h : S r k = some (o, g)) (h' : stX S X = S) : stX S ((r, k, o, g) :: X) = S := by
  show (stX S X).set r k o g = S
  rw [h']
  funext a b
  simp only [St.set]
  split
  · rename_i hc; obtain ⟨rfl, rfl⟩ := hc; exact h.symm
  · rfl
theorem sy_c {S S1 S2 : St} {r k g : Nat} {o : GObj} {X : Exts} (h : stX S X = S1) (h' : S1.set r k o g = S2) : stX S ((r, k, o, g) :: X) = S2 := by
  show (stX S X).set r k o g = S2
  rw [h, h']
theorem EWk.owX {t : Env} {S : St} {rg r k g : Nat} {X X' : Exts} {l : Objs} {o o' : GObj} (hne : r ≠ rg) (hd : DX X) (i : Nat) (h : X[i]? = some (r, k, o, g)) (hX : X.set i (r, k, o', g) = X') (ho : OW o o') : EWk t (stL (stX S X) rg l) t (stL (stX S X') rg l) := fun n G a w hr ht =>
  ⟨G, Ghost.le.refl G, by rw [← setX (l := l) hne hd i h hX]; exact hr.ow (atX hne hd i h) ho, ht⟩
theorem gives_owX {R : AV → St → Prop} {v : AV} {S : St} {rg r k g : Nat} {X X' : Exts} {l : Objs} {o o' : GObj} (hne : r ≠ rg) (hd : DX X) (i : Nat) (h : X[i]? = some (r, k, o, g)) (hX : X.set i (r, k, o', g) = X') (ho : OW o o')
    (hg : Gives R v (stL (stX S X') rg l)) : Gives R v (stL (stX S X) rg l) := fun G w x hr hv => hg G w x (by rw [← setX (l := l) hne hd i h hX]; exact hr.ow (atX hne hd i h) ho) hv
/-- A nil slice in a box becomes an empty row of the call's own. -/
theorem Wl.matB {P : Program} {n : Nat} {ops c : List Oper} {K : Env → St → Prop} {t : Env} {S0 : St} {rg : Nat} {l : Objs} {a : AV} {b : Nat → AV} {kk g0 : Nat} (k0 i k k1 : Nat) (hS : lkp l k0 = some (.arr kk [a], g0)) (hc : a.cells[i]? = some .nil) (hk : 0 < k1) (hne : k ≠ k0)
    (hb : (fun g => (b g).cells) = fun g => a.cells.set i (.sl k1 rg k g 0 0)) (h : ∀ g, Wl P n ops c K t (stL S0 rg ((k0, .arr kk [b g], g0) :: (k, .arr k1 [], g) :: l))) : Wl P n ops c K t (stL S0 rg l) := by
  intro hok G w0 w Q hr ht hQ
  obtain ⟨g, G', q1, q2, q3⟩ := hr.mat rg k k1 hk
  have hS2 : ((stL S0 rg l).set rg k (.arr k1 []) g) rg k0 = some (.arr kk [a], g0) := by
    simp only [St.set]
    rw [if_neg (fun hh => hne hh.2.symm), stL_at]
    exact hS
  have hcb : (b g).cells = a.cells.set i (.sl k1 rg k g 0 0) := congrFun hb g
  have q4 := q2.owG (o' := .arr kk [b g]) hS2 ⟨rfl, rfl, fun x h1 h2 => by
    have : x = 0 := by simpa using h1
    subst this
    simp only [List.getElem_cons_zero]
    refine ⟨by rw [hcb, List.length_set], fun j h3 h4 z hz => ?_⟩
    have e : (b g).cells[j] = (a.cells.set i (.sl k1 rg k g 0 0))[j]'(by rw [List.length_set]; exact h3) := by simp only [hcb]
    rw [e, List.getElem_set]
    split
    · rename_i hij
      subst hij
      rw [List.getElem?_eq_getElem h3] at hc
      rw [Option.some.inj hc] at hz
      cases hz
      exact q3
    · exact hz⟩
  rw [stL_set, stL_set] at q4
  exact h g hok G' w0 w Q q4 (ht.mono q1) (fun a w hl => hQ a w (Gg.lift_mono hl q1))
theorem ag {l : List Key} {S S' : St} {r k : Nat} {x : GObj × Nat} (h : agree2 l S' S) (i : Nat) (hi : l[i]? = some (r, k)) (hS : S r k = some x) : S' r k = some x := (h (r, k) (List.mem_of_getElem? hi)).trans hS
theorem sm_c {S : St} {x : Nat × Nat × GObj × Nat} {X Y : Exts} (h : stX S X = appL Y S) : stX S (x :: X) = appL (x :: Y) S := by
  show (stX S X).set _ _ _ _ = (appL Y S).set _ _ _ _
  rw [h]
/-- A call with effects in a region that draws its order. -/
theorem dCE {P : Program} {rg : Nat} {us : Nat → CR2} {ops rest : List Oper} {d : Option Nat} {ty : TypeId} {pos : String} {after : Array Edge} {j : Nat} {log : Log} {t : Env} {S : St} {K : Env → St → Prop} {f : Operand} {xs : List Operand} {ts : Array TypeId} {g : FuncId} {caps vs : List AV}
    {V : Gen → AV} {rd wk : List Key} {wr : Gen → List WE} (hf : ev t f = .fn (.func g) [] caps) (ha : VWL (xs.map (ev t) ++ caps) vs) (hu : us j = wc V rd wk wr) (hcf : cf ops log j (rd, wk)) (hne : (rd, wk) ≠ (([], []) : Eff2)) (hk : ∀ γ, (wr γ).map (fun x => (x.1, x.2.1)) = wk)
    (hc : ∀ S', agree2 rd S' S → agree2 wk S' S → Ctr P g vs S' (fun v S'' => ∃ γ, v = V γ ∧ S'' = appL (wr γ) S'))
    (h : ∀ γ, vdT P rg us ops rest (j + 1) ((j, (rd, wk)) :: log) (updo t d (V γ)) (appL (wr γ) S) K) : vdT P rg us ops (⟨d, .call { callee := .value f, args := xs.toArray, argTypes := ts }, ty, pos, after, none⟩ :: rest) j log t S K := by
  rw [vdT_call, hu]
  refine ⟨hcf, ?_⟩
  rw [hf]
  refine ⟨⟨fun γ x hx => ?_, fun S' h1 h2 => Ctr.arg ha.len (fun i h1 h2 => ha.at i h1 h2) (hc S' h1 h2)⟩, fun γ => ?_⟩
  · rw [show (wc V rd wk wr).wk = wk from rfl, ← hk γ]
    exact List.mem_map.2 ⟨x, hx, rfl⟩
  · have := h γ
    rw [show lg j ((wc V rd wk wr).rd, (wc V rd wk wr).wk) log = (j, (rd, wk)) :: log from lg_ne hne]
    exact this
theorem vdT.eqS {P : Program} {rg : Nat} {us : Nat → CR2} {ops rest : List Oper} {j : Nat} {log : Log} {t : Env} {S S' : St} {K : Env → St → Prop} (e : S = S') (h : vdT P rg us ops rest j log t S' K) : vdT P rg us ops rest j log t S K := e ▸ h
/-- A row compared with nil. -/
theorem Wl.isnilR {P : Program} {n : Nat} {ops rest : List Oper} {K : Env → St → Prop} {d : Option Nat} {ty : TypeId} {pos : String} {after : Array Edge} {t : Env} {S : St} {kk r k' g off c : Nat} {T T' e : TypeId} {x y : Operand}
    (hT : td P T = .slice e) (hx : ev t x = .sl kk r k' g off c) (hy : ev t y = .nil) (h : ∀ b : Bool, (b = true → c = 0) → Wl P n ops rest K (updo t d (.bool b)) S) : Wl P n ops (⟨d, .binOp .eql T x y T', ty, pos, after, none⟩ :: rest) K t S := by
  refine Wl.stepS (QOp.sop ?_) rfl
  intro G ρ w hr he
  have h1 := he x
  have h2 := he y
  rw [hx] at h1
  rw [hy] at h2
  generalize hvx : ρ x = vx at h1
  generalize hvy : ρ y = vy at h2
  cases h2
  cases h1 with
  | sl _ _ _ _ _ _ a L q1 q2 q3 q4 q5 =>
  refine ⟨.bool a.isNone, .bool a.isNone, ?_, h _ (fun hn => ?_), .bool _⟩
  · have hg : (eqGuard .eql T x y (.slice a c (L.cap - off)) (.slice none 0 0)).run P w = .ok () w := rfl
    have hb : (do eqGuard .eql T x y (.slice a c (L.cap - off)) (.slice none 0 0); binOp .eql T (.slice a c (L.cap - off)) (.slice none 0 0) : Sem Value).run P w = .ok (.bool a.isNone) w := by
      simp only [Sem.run_bind, hg, Result.andThen_ok]
      exact run_binOp_eq (run_eq_slnil (P := P) (w := w) (T := T) (a := a) (n := c) (td_slice hT))
    have hl : ∀ (s : Sem Value) (v : Value), s.run P w = .ok v w → ((do pure (.value (← s))) : Sem Next).run P w = .ok (.value v) w := by
      intro s v h1
      simp [h1]
    show ((do pure (.value (← (do eqGuard .eql T x y (ρ x) (ρ y); binOp .eql T (ρ x) (ρ y))))) : Sem Next).run P w = _
    rw [hvx, hvy]
    exact hl _ _ hb
  · rcases Nat.eq_zero_or_pos c with h0 | h0
    · exact h0
    · rw [q5 (by omega)] at hn
      cases hn
end Go.Gg
namespace Go.Gg
open Go.RowKit (Below)
/-- The rows of a family stand in a region of their own, row i under the key i. -/
def famS {α : Type} (S : St) (rf kk : Nat) (enc : α → AV) (gs : Nat → Nat) (T : List (List α)) : St := fun r k => if r = rf then some (.arr kk ((T.getD k []).map enc), gs k) else S r k
/-- What the outer row holds. -/
def famE {α : Type} (rf kk : Nat) (gs : Nat → Nat) (T : List (List α)) : List AV := (List.range T.length).map fun i => .sl kk rf i (gs i) 0 (T.getD i []).length
def updg (gs : Nat → Nat) (i g : Nat) : Nat → Nat := fun j => if j = i then g else gs j
section
variable {α : Type} {S S0 : St} {rf rg kk : Nat} {enc : α → AV} {gs : Nat → Nat} {T : List (List α)} {L : Objs}
theorem famS_at (hne : rf ≠ rg) (i : Nat) : stL (famS S0 rf kk enc gs T) rg L rf i = some (.arr kk ((T.getD i []).map enc), gs i) := by
  rw [stL_ne hne]
  simp [famS]
theorem famS_ne {r k : Nat} (h : r ≠ rf) : famS S rf kk enc gs T r k = S r k := by simp [famS, h]
theorem famS_set (hne : rf ≠ rg) {i g : Nat} {l : List α} (hi : i < T.length) : (stL (famS S0 rf kk enc gs T) rg L).set rf i (.arr kk (l.map enc)) g = stL (famS S0 rf kk enc (updg gs i g) (T.set i l)) rg L := by
  funext r k
  simp only [St.set, stL, famS]
  by_cases h1 : r = rf
  · subst h1
    rw [if_neg hne, if_neg hne]
    by_cases h2 : k = i
    · subst h2
      rw [if_pos ⟨rfl, rfl⟩]
      simp only [if_true, updg, List.getD_eq_getElem?_getD, List.getElem?_set_self hi, Option.getD_some]
    · rw [if_neg (fun h => h2 h.2)]
      simp only [if_true, updg, if_neg h2, List.getD_eq_getElem?_getD, List.getElem?_set_ne (Ne.symm h2)]
  · rw [if_neg (fun h => h1 h.1)]
    simp only [if_neg h1]
theorem famE_len : (famE rf kk gs T).length = T.length := by simp [famE]
theorem famE_getD {i : Nat} (hi : i < T.length) : (famE rf kk gs T).getD i .junk = .sl kk rf i (gs i) 0 (T.getD i []).length := by
  rw [List.getD_eq_getElem?_getD]
  simp [famE, hi]
theorem famE_set {i g : Nat} {l : List α} : (famE rf kk gs T).set i (.sl kk rf i g 0 l.length) = famE rf kk (updg gs i g) (T.set i l) := by
  apply List.ext_getElem
  · simp [famE]
  · intro j h1 h2
    have hj : j < T.length := by simpa [famE] using h1
    rw [List.getElem_set]
    simp only [famE, List.getElem_map, List.getElem_range, updg]
    by_cases h : i = j
    · subst h
      rw [if_pos rfl, if_pos rfl]
      simp only [List.getD_eq_getElem?_getD, List.getElem?_set_self hj, Option.getD_some]
    · rw [if_neg h, if_neg (Ne.symm h)]
      simp only [List.getD_eq_getElem?_getD, List.getElem?_set_ne h]
end

/-! ### How a family comes to be -/
theorem Rel.famMake {α : Type} {G : Ghost} {S0 : St} {w : World} {rg K g : Nat} {L : Objs} {kk : Nat} (enc : α → AV) {n : Int} (hr : Rel G (stL S0 rg L) w) (hk : 0 < kk) (hS : lkp L K = some (.arr 1 (rep' n .nil), g)) :
    ∃ rf gs G', rf ≠ rg ∧ (∀ k, S0 rf k = none) ∧ G.le G' ∧ Rel G' (stL (famS S0 rf kk enc gs (rep' n [])) rg ((K, .arr 1 (famE rf kk gs (rep' n ([] : List α))), g) :: L)) w := by
  obtain ⟨N, hN⟩ := hr.fin
  let rf := max N (rg + 1)
  have hne : rf ≠ rg := by show max N (rg + 1) ≠ rg; omega
  have hrf : ∀ k, S0 rf k = none := fun k => by
    have := hN rf (Nat.le_max_left _ _) k
    rwa [stL_ne hne] at this
  let gs : Nat → Nat := fun k => (hr.fing rf k).choose
  have hgs : ∀ k, G.loc rf k (gs k) = none := fun k => (hr.fing rf k).choose_spec _ (Nat.le_refl _)
  let L0 : Loc := ⟨0, 0, kk, 0⟩
  let G' : Ghost := { G with loc := fun r k g => if r = rf ∧ g = gs k then some L0 else G.loc r k g }
  have hle : G.le G' := by
    refine ⟨rfl, fun _ _ _ e => e, fun r k g L' e => ?_⟩
    show (if r = rf ∧ g = gs k then some L0 else G.loc r k g) = some L'
    split
    · rename_i hc; obtain ⟨rfl, rfl⟩ := hc; rw [hgs] at e; cases e
    · exact e
  have hloc : ∀ k, G'.loc rf k (gs k) = some L0 := fun k => by
    show (if rf = rf ∧ gs k = gs k then some L0 else _) = _
    rw [if_pos ⟨rfl, rfl⟩]
  have hgetD : ∀ k, (rep' n ([] : List α)).getD k [] = [] := fun k => by
    rw [List.getD_eq_getElem?_getD]
    simp only [rep', List.getElem?_replicate]
    split <;> rfl
  refine ⟨rf, gs, G', hne, hrf, hle, ?_⟩
  have h1 : Rel G' (stL (famS S0 rf kk enc gs (rep' n [])) rg L) w := by
    have src : ∀ {r k o g}, stL (famS S0 rf kk enc gs (rep' n [])) rg L r k = some (o, g) → (r = rf ∧ o = .arr kk [] ∧ g = gs k) ∨ (r ≠ rf ∧ stL S0 rg L r k = some (o, g)) := fun {r k o g} e => by
      by_cases h : r = rf
      · subst h
        rw [famS_at hne, hgetD] at e
        cases e
        exact .inl ⟨rfl, rfl, rfl⟩
      · refine .inr ⟨h, ?_⟩
        simp only [stL] at e ⊢
        split
        · rename_i h2; rw [if_pos h2] at e; exact e
        · rename_i h2; rw [if_neg h2, famS_ne h] at e; exact e
    refine ⟨hr.below, hr.imm, fun r k o g' e => ?_, ?_, ⟨rf + 1, fun r hr' k => ?_⟩, fun r k => ?_⟩
    · rcases src e with ⟨rfl, rfl, rfl⟩ | ⟨h, e⟩
      · exact ⟨L0, hloc k, ⟨hk, rfl, by simp, by simp [L0, maxLen], fun i h => by simp at h, fun h => by simp [L0] at h⟩, fun h => by simp [L0] at h⟩
      · obtain ⟨L1, q1, q2, q3⟩ := hr.obj _ _ _ _ e
        exact ⟨L1, hle.loc _ _ _ _ q1, q2.keep hle (fun _ => rfl), q3⟩
    · intro r1 k1 o1 g1 r2 k2 o2 g2 L1 L2 e1 e2 l1 l2 c1 c2 hne'
      rcases src e1 with ⟨rfl, rfl, rfl⟩ | ⟨h1, e1⟩
      · rw [hloc] at l1; cases l1; simp [L0] at c1
      · rcases src e2 with ⟨rfl, rfl, rfl⟩ | ⟨h2, e2⟩
        · rw [hloc] at l2; cases l2; simp [L0] at c2
        · obtain ⟨M1, q1, _⟩ := hr.obj _ _ _ _ e1
          obtain ⟨M2, q2, _⟩ := hr.obj _ _ _ _ e2
          have a1 := hle.loc _ _ _ _ q1
          have a2 := hle.loc _ _ _ _ q2
          rw [l1] at a1; cases a1
          rw [l2] at a2; cases a2
          exact hr.inj _ _ _ _ _ _ _ _ _ _ e1 e2 q1 q2 c1 c2 hne'
    · have h3 := hN r (by have : rf + 1 ≤ r := hr'; have : rf = max N (rg + 1) := rfl; omega) k
      cases e : stL (famS S0 rf kk enc gs (rep' n [])) rg L r k with
      | none => rfl
      | some x =>
        obtain ⟨o, g'⟩ := x
        rcases src e with ⟨h, _, _⟩ | ⟨_, e⟩
        · omega
        · rw [h3] at e; cases e
    · obtain ⟨M, hM⟩ := hr.fing r k
      refine ⟨max M (gs k + 1), fun g' hg' => ?_⟩
      show (if r = rf ∧ g' = gs k then some L0 else G.loc r k g') = none
      rw [if_neg (fun hc => by omega)]
      exact hM g' (by omega)
  have hnil : ∀ i z, VR G' .nil z → VR G' (.sl kk rf i (gs i) 0 0) z := fun i z hz => by
    cases hz
    exact .sl (G := G') kk rf i (gs i) 0 0 none L0 (hloc i) rfl (by simp) (by simp [L0, maxLen]) (fun h => by simp [L0] at h)
  have h2 := h1.owG (r := rg) (k := K) (g := g) (o := .arr 1 (rep' n .nil)) (o' := .arr 1 (famE rf kk gs (rep' n ([] : List α)))) (by rw [stL_at]; exact hS)
    ⟨rfl, by simp [famE, rep'], fun i hi hi' => by
      have hin : i < (rep' n ([] : List α)).length := by simpa [famE] using hi'
      have e1 : (rep' n AV.nil)[i] = .nil := by simp [rep']
      have e2 : (famE rf kk gs (rep' n ([] : List α)))[i] = .sl kk rf i (gs i) 0 0 := by
        simp only [famE, List.getElem_map, List.getElem_range, hgetD, List.length_nil]
      simp only [e1, e2]
      refine ⟨rfl, fun j h1 h2 z hz => ?_⟩
      have : j = 0 := by simpa [AV.cells] using h1
      subst this
      exact hnil i z hz⟩
  rw [stL_set] at h2
  exact h2
theorem Wl.fam {α : Type} {P : Program} {n : Nat} {ops c : List Oper} {Kt : Env → St → Prop} {t : Env} {S0 : St} {rg K g : Nat} {L : Objs} {m : Int} (kk : Nat) (enc : α → AV) (hS : lkp L K = some (.arr 1 (rep' m .nil), g)) (hk : 0 < kk)
    (h : ∀ rf gs, rf ≠ rg → (∀ k, S0 rf k = none) → Wl P n ops c Kt t (stL (famS S0 rf kk enc gs (rep' m [])) rg ((K, .arr 1 (famE rf kk gs (rep' m ([] : List α))), g) :: L))) : Wl P n ops c Kt t (stL S0 rg L) := by
  intro hok G a w Q hr ht hQ
  obtain ⟨rf, gs, G', h1, h2, h3, h4⟩ := hr.famMake enc hk hS
  exact h rf gs h1 h2 hok G' a w Q h4 (ht.mono h3) (fun a w hl => hQ a w (Gg.lift_mono hl h3))

/-! ### Operations -/
section
variable {α : Type} {P : Program} {rg rf kk : Nat} {enc : α → AV} {gs gs' : Nat → Nat} {T T' : List (List α)} {t : Env} {S0 : St} {L : Objs} {K : AV → St → Prop} {x y a : Operand} {m : Int} {d : Option Nat} {Ty e : TypeId}
theorem o_loadF {S : St} {k g : Nat} (hS : S rg k = some (.arr 1 (famE rf kk gs T), g)) (hs : sz P Ty = 1) (ha : isAggT P Ty = false) (hx : ev t x = .ptr rg k g m.toNat 0) (hi : m.toNat < T.length)
    (h : K (.sl kk rf m.toNat (gs m.toNat) 0 (at' T m).length) S) : vo P rg d (.load Ty x) t S K :=
  o_loadR hS hs (by omega) (.inr ⟨ha, rfl⟩) hx (by rw [famE_len]; exact hi) (by omega) (by rw [ha, famE_getD hi]; rfl) h
theorem o_appF {b g n : Nat} {xs : List α} {z : AV} (hne : rf ≠ rg) (hT : td P Ty = .slice e) (hb : bts P e = b) (hok : tyok P e = true) (hz : zav P e = z) (hi : m.toNat < T.length) (hg : gs m.toNat = g) (hn : n = (at' T m).length) (hx : view (stL (famS S0 rf kk enc gs T) rg L) (ev t y) = some (xs.map enc)) (hk : z.cells.length = kk) (hx0 : ev t x = .sl kk rf m.toNat g 0 n)
    (hone : ∀ z, allOne (enc z).cells = true) (hkk : ∀ z, (enc z).cells.length = kk) (hbd : (at' T m ++ xs).length * b ≤ 140737488355328) (hb0 : Nat.ble 1 b = true)
    (h : ∀ g, K (.sl kk rf m.toNat g 0 (at' T m ++ xs).length) (stL (famS S0 rf kk enc (updg gs m.toNat g) (set' T m (at' T m ++ xs))) rg L)) :
    vo P rg d (.call { callee := .builtin .append, args := #[x, y], argTypes := #[Ty, Ty] }) t (stL (famS S0 rf kk enc gs T) rg L) K := by
  subst hg
  exact o_appR (es := at' T m) hT hb hok hz (famS_at hne m.toNat) hn hx hk hx0 hone hkk hbd hb0 (fun g => famS_set hne hi) h
theorem o_storeF {S S' : St} {k g g1 n : Nat} {l : List α} (hS : S rg k = some (.arr 1 (famE rf kk gs T), g)) (hs : sz P Ty = 1) (ha : ev t a = .ptr rg k g m.toNat 0) (hx : ev t x = .sl kk rf m.toNat g1 0 n) (hi : m.toNat < T.length) (hn : n = l.length)
    (hset : S.set rg k (.arr 1 (famE rf kk (updg gs m.toNat g1) (set' T m l))) g = S') (h : K .junk S') : vo P rg d (.store Ty a x) t S K := by
  subst hn
  rw [vo_store, ha, hx, vStore]
  simp only [hS]
  have e : (famE rf kk gs T).getD m.toNat .junk = .sl kk rf m.toNat (gs m.toNat) 0 (T.getD m.toNat []).length := famE_getD hi
  refine ⟨⟨trivial, by rw [famE_len]; exact hi, by omega, by rw [hs]; rfl, by omega, rfl⟩, ?_⟩
  rw [e]
  have e2 : stv (.sl kk rf m.toNat (gs m.toNat) 0 (T.getD m.toNat []).length) 0 (.sl kk rf m.toNat g1 0 l.length) = .sl kk rf m.toNat g1 0 l.length := rfl
  rw [e2, famE_set]
  show K .junk (S.set rg k (.arr 1 (famE rf kk (updg gs m.toNat g1) (set' T m l))) g)
  rw [hset]
  exact h
end
theorem gives_unfam {α : Type} {R : AV → St → Prop} {v : AV} {S : St} {rf rg kk : Nat} {enc : α → AV} {gs : Nat → Nat} {T : List (List α)} {L : Objs} (hne : rf ≠ rg) (hrf : ∀ k, S rf k = none) (h : Gives R v (stL S rg L)) : Gives R v (stL (famS S rf kk enc gs T) rg L) := by
  refine Gives.drop rf ?_
  have : (stL (famS S rf kk enc gs T) rg L).clear rf = stL S rg L := by
    funext r k
    simp only [St.clear, stL, famS]
    by_cases h1 : r = rf
    · subst h1; rw [if_pos rfl, if_neg hne, hrf]
    · rw [if_neg h1, if_neg h1]
  rw [this]
  exact h
/-! ### A family is written no more -/
theorem Rel.unfam {α : Type} {G : Ghost} {S0 : St} {w : World} {rg rf K g kk : Nat} {L : Objs} {enc : α → AV} {gs : Nat → Nat} {T : List (List α)} (hne : rf ≠ rg) (hrf : ∀ k, S0 rf k = none) (hr : Rel G (stL (famS S0 rf kk enc gs T) rg L) w) (hS : lkp L K = some (.arr 1 (famE rf kk gs T), g)) :
    ∃ G', G.le G' ∧ Rel G' (stL S0 rg ((K, .arr 1 (T.map (eL enc)), g) :: L)) w := by
  -- the first i rows are frozen
  let dS : Nat → St := fun i r k => if r = rf ∧ k < i then none else famS S0 rf kk enc gs T r k
  let mE : Nat → List AV := fun i => (List.range T.length).map fun j => if j < i then eL enc (T.getD j []) else .sl kk rf j (gs j) 0 (T.getD j []).length
  have step : ∀ i, ∃ G', G.le G' ∧ Rel G' (stL (dS i) rg ((K, .arr 1 (mE i), g) :: L)) w := by
    intro i
    induction i with
    | zero =>
      refine ⟨G, Ghost.le.refl G, ?_⟩
      have e1 : dS 0 = famS S0 rf kk enc gs T := by funext r k; simp [dS]
      have e2 : mE 0 = famE rf kk gs T := by simp [mE, famE]
      rw [e1, e2, ← stL_set]
      have : (stL (famS S0 rf kk enc gs T) rg L).set rg K (.arr 1 (famE rf kk gs T)) g = stL (famS S0 rf kk enc gs T) rg L := by
        funext r k
        simp only [St.set]
        split
        · rename_i hc; obtain ⟨rfl, rfl⟩ := hc; rw [stL_at, hS]
        · rfl
      rw [this]
      exact hr
    | succ i ih =>
      obtain ⟨G1, q1, q2⟩ := ih
      have hSi : stL (dS i) rg ((K, .arr 1 (mE i), g) :: L) rf i = some (.arr kk ((T.getD i []).map enc), gs i) := by
        rw [stL_ne hne]
        simp [dS, famS]
      obtain ⟨G2, p1, p2, L1, a1, a2, a3, a4, a5, u, a6, a7⟩ := q2.freeze hSi
      have hst : (stL (dS i) rg ((K, .arr 1 (mE i), g) :: L)).del rf i = stL (dS (i + 1)) rg ((K, .arr 1 (mE i), g) :: L) := by
        funext r k
        simp only [St.del, stL, dS]
        by_cases h1 : r = rf
        · subst h1
          rw [if_neg hne]
          by_cases h2 : k = i
          · subst h2; simp [hne]
          · simp only [true_and, h2, if_false, if_neg hne]
            by_cases h3 : k < i
            · rw [if_pos h3, if_pos (by omega)]
            · rw [if_neg h3, if_neg (by omega)]
        · simp [h1]
      rw [hst] at p2
      refine ⟨G2, q1.trans p1, ?_⟩
      have h3 := p2.owG (r := rg) (k := K) (g := g) (o := .arr 1 (mE i)) (o' := .arr 1 (mE (i + 1))) (by rw [stL_at]; simp [lkp])
        ⟨rfl, by simp [mE], fun j hj hj' => by
          have g1 : ∀ i, ∀ h : j < (mE i).length, (mE i)[j] = if j < i then eL enc (T.getD j []) else .sl kk rf j (gs j) 0 (T.getD j []).length := fun i h => by simp only [mE, List.getElem_map, List.getElem_range]
          simp only [g1]
          by_cases h1 : j < i
          · have h1' : j < i + 1 := by omega
            simp only [if_pos h1, if_pos h1']
            exact ⟨trivial, fun _ _ _ z hz => hz⟩
          · simp only [if_neg h1]
            by_cases h2 : j = i
            · subst h2
              simp only [if_pos (Nat.lt_succ_self j)]
              refine ⟨rfl, fun q hq1 hq2 z hz => ?_⟩
              have : q = 0 := by simpa [AV.cells] using hq1
              subst this
              have hz' : VR G2 (.sl kk rf j (gs j) 0 (T.getD j []).length) z := hz
              have := frz1_sound (Ghost.le.refl G2) (p1.loc _ _ _ _ a1) a2 a3 a4 a5 u a6 a7 hz'
              have e : frz1 rf j (gs j) kk ((T.getD j []).map enc) (.sl kk rf j (gs j) 0 (T.getD j []).length) = eL enc (T.getD j []) := by
                simp [frz1, eL, List.take_of_length_le]
              rw [e] at this
              exact this
            · have h3 : ¬ j < i + 1 := by omega
              simp only [if_neg h3]
              exact ⟨trivial, fun _ _ _ z hz => hz⟩⟩
      rw [stL_set] at h3
      have h4 : stL (dS (i + 1)) rg ((K, .arr 1 (mE (i + 1)), g) :: (K, .arr 1 (mE i), g) :: L) = stL (dS (i + 1)) rg ((K, .arr 1 (mE (i + 1)), g) :: L) := by
        rw [← stL_set, ← stL_set, ← stL_set]
        funext r k
        simp only [St.set]
        split <;> rfl
      rw [h4] at h3
      exact h3
  obtain ⟨G1, q1, q2⟩ := step T.length
  refine ⟨G1, q1, ?_⟩
  have e2 : mE T.length = T.map (eL enc) := by
    apply List.ext_getElem
    · simp [mE]
    · intro j h1 h2
      have hj : j < T.length := by simpa using h2
      simp only [mE, List.getElem_map, List.getElem_range, if_pos hj, List.getD_eq_getElem?_getD, List.getElem?_eq_getElem hj, Option.getD_some]
  rw [e2] at q2
  refine q2.sub ?_
  intro r k z hz
  simp only [stL] at hz ⊢
  split
  · rename_i h1; rw [if_pos h1] at hz; exact hz
  · rename_i h1
    rw [if_neg h1] at hz
    simp only [dS, famS]
    by_cases h2 : r = rf
    · subst h2; rw [hrf] at hz; cases hz
    · rw [if_neg (fun h => h2 h.1), if_neg h2]; exact hz
theorem EWk.unfam {α : Type} {t : Env} {S0 : St} {rg rf K g kk : Nat} {L : Objs} {enc : α → AV} {gs : Nat → Nat} {T : List (List α)} (hne : rf ≠ rg) (hrf : ∀ k, S0 rf k = none) (hS : lkp L K = some (.arr 1 (famE rf kk gs T), g)) : EWk t (stL (famS S0 rf kk enc gs T) rg L) t (stL S0 rg ((K, .arr 1 (T.map (eL enc)), g) :: L)) := fun _ _ _ _ hr ht =>
  let ⟨G', q1, q2⟩ := hr.unfam hne hrf hS
  ⟨G', q1, q2, ht.mono q1⟩
end Go.Gg
