/- An own logic over the kit's weakest preconditions, part T: rows within boxes, closures. Conditions: none. -/
import Derived.Test.YtiamkdpljeemkaaGc
/- An own logic over the kit's weakest preconditions, part T: rows within boxes, closures. Conditions: none. -/
namespace Go.Gg
/-- The contents of an object, seen otherwise in one ghost state. -/
def OWG (G : Ghost) : GObj → GObj → Prop
  | .arr kk es, .arr kk' es' => kk = kk' ∧ es.length = es'.length ∧ ∀ i (h : i < es.length) (h' : i < es'.length), es[i].cells.length = es'[i].cells.length ∧ ∀ j (h1 : j < es[i].cells.length) (h2 : j < es'[i].cells.length) z, VR G es[i].cells[j] z → VR G es'[i].cells[j] z
  | _, _ => False
theorem Rel.owG {G : Ghost} {S : St} {w : World} (h : Rel G S w) {r k g : Nat} {o o' : GObj} (hS : S r k = some (o, g)) (ho : OWG G o o') : Rel G (S.set r k o' g) w := by
  refine h.remap fun r' k' o2 g2 e => ?_
  simp only [St.set] at e
  split at e
  · rename_i hc
    obtain ⟨rfl, rfl⟩ := hc
    cases e
    refine ⟨o, hS, fun L hL => ?_⟩
    obtain ⟨L', hL', hobj, _⟩ := h.obj _ _ _ _ hS
    obtain rfl : L' = L := by rw [hL] at hL'; exact (Option.some.inj hL').symm
    cases o with
    | mp => exact ho.elim
    | lp => exact ho.elim
    | arr kk es =>
    cases o' with
    | mp => exact ho.elim
    | lp => exact ho.elim
    | arr kk' es' =>
    obtain ⟨rfl, hl, hv⟩ := ho
    obtain ⟨h1, h2, h3, h3', h4, h5⟩ := hobj
    refine ⟨h1, h2, by omega, h3', fun i hi => ?_, fun hc => ?_⟩
    · rw [← (hv i (by omega) hi).1]; exact h4 i (by omega)
    · obtain ⟨row, a1, a2, a3⟩ := h5 hc
      refine ⟨row, a1, a2, fun i hi j hj => ?_⟩
      have hvi := hv i (by omega) hi
      obtain ⟨z, z1, z2⟩ := a3 i (by omega) j (by rw [hvi.1]; exact hj)
      exact ⟨z, z1, hvi.2 j _ hj z z2⟩
  · exact ⟨o2, e, fun L hL => by
      obtain ⟨L', hL', hobj, _⟩ := h.obj _ _ _ _ e
      obtain rfl : L' = L := by rw [hL] at hL'; exact (Option.some.inj hL').symm
      exact hobj⟩
/-- A nil slice in a box becomes an empty row of the call's own. -/
theorem Vc.matB {P : Program} {n : Nat} {c : Code} {Q : AK} {t : Env} {S0 : St} {rg : Nat} {l : Objs} {a : AV} {b : Nat → AV} {kk g0 : Nat} (k0 i k k1 : Nat) (hS : lkp l k0 = some (.arr kk [a], g0)) (hc : a.cells[i]? = some .nil) (hk : 0 < k1) (hne : k ≠ k0)
    (hb : (fun g => (b g).cells) = fun g => a.cells.set i (.sl k1 rg k g 0 0)) (h : ∀ g, Vc P n c Q t (stL S0 rg ((k0, .arr kk [b g], g0) :: (k, .arr k1 [], g) :: l))) : Vc P n c Q t (stL S0 rg l) := by
  intro ro hok G w0 w hr ht
  obtain ⟨g, G', q1, q2, q3⟩ := hr.mat rg k k1 hk
  have hS2 : ((stL S0 rg l).set rg k (.arr k1 []) g) rg k0 = some (.arr kk [a], g0) := by
    simp only [St.set]
    rw [if_neg (fun hh => hne hh.2.symm), stL_at]
    exact hS
  have hcb : (b g).cells = a.cells.set i (.sl k1 rg k g 0 0) := congrFun hb g
  have q4 := q2.owG (o' := .arr kk [b g]) hS2 ⟨rfl, rfl, fun x h1 h2 => by
    have : x = 0 := by simpa using h1
    subst this
    simp only [List.getElem_cons_zero]
    refine ⟨by rw [hcb, List.length_set], fun j h3 h4 z hz => ?_⟩
    have e : (b g).cells[j] = (a.cells.set i (.sl k1 rg k g 0 0))[j]'(by rw [List.length_set]; exact h3) := by simp only [hcb]
    rw [e, List.getElem_set]
    split
    · rename_i hij
      subst hij
      rw [List.getElem?_eq_getElem h3] at hc
      rw [Option.some.inj hc] at hz
      cases hz
      exact q3
    · exact hz⟩
  rw [stL_set, stL_set] at q4
  exact wpIn_mono (h g ro hok G' w0 w q4 (ht.mono q1)) (fun _ _ _ he => AK.lift_mono q1 he)
/-- The elements of a row, seen otherwise one by one. -/
def OWA : List AV → List AV → Prop
  | [], [] => True
  | a :: l, b :: m => VWC a b ∧ OWA l m
  | _, _ => False
theorem OWA.len : ∀ {l m : List AV}, OWA l m → l.length = m.length
  | [], [], _ => rfl
  | _ :: _, _ :: _, h => by rw [List.length_cons, List.length_cons, OWA.len h.2]
  | [], _ :: _, h => h.elim
  | _ :: _, [], h => h.elim
theorem OWA.at : ∀ {l m : List AV}, OWA l m → ∀ i (h1 : i < l.length) (h2 : i < m.length), VWC l[i] m[i]
  | _ :: _, _ :: _, h, 0, _, _ => h.1
  | _ :: _, _ :: _, h, i + 1, h1, h2 => OWA.at h.2 i (by simpa using h1) (by simpa using h2)
  | [], _, _, _, h1, _ => absurd h1 (by simp)
  | _ :: _, [], h, _, _, _ => h.elim
theorem OW.all {kk : Nat} {l m : List AV} (h : OWA l m) : OW (.arr kk l) (.arr kk m) := ⟨rfl, h.len.symm, fun i h1 h2 => h.at i h1 h2⟩
end Go.Gg
namespace Go.Gg
theorem dk_n : DK [] := trivial
theorem dk_c {p : Nat × Nat} {X : List (Nat × Nat)} (h : ∀ q ∈ X, ¬ (q.1 = p.1 ∧ q.2 = p.2)) (h' : DK X) : DK (p :: X) := ⟨h, h'⟩
theorem ni_n {p : Nat × Nat} : ∀ q ∈ ([] : List (Nat × Nat)), ¬ (q.1 = p.1 ∧ q.2 = p.2) := fun _ h => by simp at h
theorem ni_c {p q : Nat × Nat} {X : List (Nat × Nat)} (h : ¬ (q.1 = p.1 ∧ q.2 = p.2)) (h' : ∀ q ∈ X, ¬ (q.1 = p.1 ∧ q.2 = p.2)) : ∀ q' ∈ q :: X, ¬ (q'.1 = p.1 ∧ q'.2 = p.2) := fun q' hq => by
  rcases List.mem_cons.1 hq with e | e
  · subst e; exact h
  · exact h' q' e
theorem ni_o {r r' a b : Nat} (h : Nat.beq b a = false) : ¬ (((r, b) : Nat × Nat).1 = ((r', a) : Nat × Nat).1 ∧ ((r, b) : Nat × Nat).2 = ((r', a) : Nat × Nat).2) := fun hh => ne_nbeq h hh.2
theorem dk_at {p q : Nat × Nat} : ∀ {X : List (Nat × Nat)} (i j : Nat), DK X → Nat.ble (i + 1) j = true → X[i]? = some p → X[j]? = some q → ¬ (q.1 = p.1 ∧ q.2 = p.2)
  | [], i, _, _, _, h, _ => by simp at h
  | _ :: _, 0, 0, _, hij, _, _ => by simp at hij
  | x :: X, 0, j + 1, hd, _, h1, h2 => by
    simp at h1; subst h1
    exact hd.1 q (List.mem_of_getElem? (by simpa using h2))
  | x :: X, i + 1, 0, _, hij, _, _ => by simp at hij
  | x :: X, i + 1, j + 1, hd, hij, h1, h2 => dk_at i j hd.2 (by simpa using hij) (by simpa using h1) (by simpa using h2)
theorem sx_n {S : St} : stX S [] = S := rfl
theorem sx_c {S : St} {r k g : Nat} {o : GObj} {X : Exts} (h : S r k = some (o, g)) (h' : stX S X = S) : stX S ((r, k, o, g) :: X) = S := by
  show (stX S X).set r k o g = S
  rw [h']
  funext a b
  simp only [St.set]
  split
  · rename_i hc; obtain ⟨rfl, rfl⟩ := hc; exact h.symm
  · rfl
theorem sy_c {S S1 S2 : St} {r k g : Nat} {o : GObj} {X : Exts} (h : stX S X = S1) (h' : S1.set r k o g = S2) : stX S ((r, k, o, g) :: X) = S2 := by
  show (stX S X).set r k o g = S2
  rw [h, h']
theorem EWk.owX {t : Env} {S : St} {rg r k g : Nat} {X X' : Exts} {l : Objs} {o o' : GObj} (hne : r ≠ rg) (hd : DX X) (i : Nat) (h : X[i]? = some (r, k, o, g)) (hX : X.set i (r, k, o', g) = X') (ho : OW o o') : EWk t (stL (stX S X) rg l) t (stL (stX S X') rg l) := fun n G a w hr ht =>
  ⟨G, Ghost.le.refl G, by rw [← setX (l := l) hne hd i h hX]; exact hr.ow (atX hne hd i h) ho, ht⟩
theorem gives_owX {R : AV → St → Prop} {v : AV} {S : St} {rg r k g : Nat} {X X' : Exts} {l : Objs} {o o' : GObj} (hne : r ≠ rg) (hd : DX X) (i : Nat) (h : X[i]? = some (r, k, o, g)) (hX : X.set i (r, k, o', g) = X') (ho : OW o o')
    (hg : Gives R v (stL (stX S X') rg l)) : Gives R v (stL (stX S X) rg l) := fun G w x hr hv => hg G w x (by rw [← setX (l := l) hne hd i h hX]; exact hr.ow (atX hne hd i h) ho) hv
/-- A nil slice in a box becomes an empty row of the call's own. -/
theorem Wl.matB {P : Program} {n : Nat} {ops c : List Oper} {K : Env → St → Prop} {t : Env} {S0 : St} {rg : Nat} {l : Objs} {a : AV} {b : Nat → AV} {kk g0 : Nat} (k0 i k k1 : Nat) (hS : lkp l k0 = some (.arr kk [a], g0)) (hc : a.cells[i]? = some .nil) (hk : 0 < k1) (hne : k ≠ k0)
    (hb : (fun g => (b g).cells) = fun g => a.cells.set i (.sl k1 rg k g 0 0)) (h : ∀ g, Wl P n ops c K t (stL S0 rg ((k0, .arr kk [b g], g0) :: (k, .arr k1 [], g) :: l))) : Wl P n ops c K t (stL S0 rg l) := by
  intro hok ro G w0 w Q hr ht hQ
  obtain ⟨g, G', q1, q2, q3⟩ := hr.mat rg k k1 hk
  have hS2 : ((stL S0 rg l).set rg k (.arr k1 []) g) rg k0 = some (.arr kk [a], g0) := by
    simp only [St.set]
    rw [if_neg (fun hh => hne hh.2.symm), stL_at]
    exact hS
  have hcb : (b g).cells = a.cells.set i (.sl k1 rg k g 0 0) := congrFun hb g
  have q4 := q2.owG (o' := .arr kk [b g]) hS2 ⟨rfl, rfl, fun x h1 h2 => by
    have : x = 0 := by simpa using h1
    subst this
    simp only [List.getElem_cons_zero]
    refine ⟨by rw [hcb, List.length_set], fun j h3 h4 z hz => ?_⟩
    have e : (b g).cells[j] = (a.cells.set i (.sl k1 rg k g 0 0))[j]'(by rw [List.length_set]; exact h3) := by simp only [hcb]
    rw [e, List.getElem_set]
    split
    · rename_i hij
      subst hij
      rw [List.getElem?_eq_getElem h3] at hc
      rw [Option.some.inj hc] at hz
      cases hz
      exact q3
    · exact hz⟩
  rw [stL_set, stL_set] at q4
  exact h g hok ro G' w0 w Q q4 (ht.mono q1) (fun a w hl => hQ a w (Gg.lift_mono hl q1))
theorem ag {l : List Key} {S S' : St} {r k : Nat} {x : GObj × Nat} (h : agree2 l S' S) (i : Nat) (hi : l[i]? = some (r, k)) (hS : S r k = some x) : S' r k = some x := (h (r, k) (List.mem_of_getElem? hi)).trans hS
/-- A call with effects in a region that draws its order. -/
theorem dCE {P : Program} {rg : Nat} {us : Nat → CR2} {ops rest : List Oper} {d : Option Nat} {ty : TypeId} {pos : String} {after : Array Edge} {j : Nat} {log : Log} {t : Env} {S : St} {K : Env → St → Prop} {f : Operand} {xs : List Operand} {ts : Array TypeId} {g : FuncId} {fs caps vs : List AV}
    {V : Gen → AV} {rd wk : List Key} {wr : Gen → List WE} (hf : ev t f = .fn (.func g) fs caps) (ha : VWL (fs ++ (xs.map (ev t) ++ caps)) vs) (hu : us j = wc V rd wk wr) (hcf : cf ops log j (rd, wk)) (hne : (rd, wk) ≠ (([], []) : Eff2)) (hk : ∀ γ, (wr γ).map (fun x => (x.1, x.2.1)) = wk)
    (hc : ∀ S', agree2 rd S' S → agree2 wk S' S → Ctr P g vs S' (fun v S'' => ∃ γ, v = V γ ∧ S'' = appL (wr γ) S'))
    (h : ∀ γ, vdT P rg us ops rest (j + 1) ((j, (rd, wk)) :: log) (updo t d (V γ)) (appL (wr γ) S) K) : vdT P rg us ops (⟨d, .call { callee := .value f, args := xs.toArray, argTypes := ts }, ty, pos, after, none⟩ :: rest) j log t S K := by
  rw [vdT_call, hu]
  refine ⟨hcf, ?_⟩
  rw [hf]
  refine ⟨⟨fun γ x hx => ?_, fun S' h1 h2 => Ctr.arg ha.len (fun i h1 h2 => ha.at i h1 h2) (hc S' h1 h2)⟩, fun γ => ?_⟩
  · rw [show (wc V rd wk wr).wk = wk from rfl, ← hk γ]
    exact List.mem_map.2 ⟨x, hx, rfl⟩
  · have := h γ
    rw [show lg j ((wc V rd wk wr).rd, (wc V rd wk wr).wk) log = (j, (rd, wk)) :: log from lg_ne hne]
    exact this
theorem vdT.eqS {P : Program} {rg : Nat} {us : Nat → CR2} {ops rest : List Oper} {j : Nat} {log : Log} {t : Env} {S S' : St} {K : Env → St → Prop} (e : S = S') (h : vdT P rg us ops rest j log t S' K) : vdT P rg us ops rest j log t S K := e ▸ h
end Go.Gg
namespace Go.Gg
open Go.RowKit (Below)
section
variable {α : Type} {S S0 : St} {rf rg kk : Nat} {enc : α → AV} {gs : Nat → Nat} {T : List (List α)} {L : Objs}
end
/-! ### Operations -/
section
variable {α : Type} {P : Program} {rg rf kk : Nat} {enc : α → AV} {gs gs' : Nat → Nat} {T T' : List (List α)} {t : Env} {S0 : St} {L : Objs} {K : AV → St → Prop} {x y a : Operand} {m : Int} {d : Option Nat} {Ty e : TypeId}
end
section
variable {P : Program} {n : Nat} {ops rest : List Oper} {K : Env → St → Prop} {d : Option Nat} {ty : TypeId} {pos : String} {after : Array Edge} {t : Env} {S : St} {x : Operand}
end
end Go.Gg
namespace Go.Gg
/-- A map: how many entries, and what stands at a key. -/
structure GMap (V : Type) where
  n : Nat
  f : List Int → Option V
def mget {V : Type} (m : GMap V) (k : List Int) : Option V := m.f k
def mput {V : Type} (m : GMap V) (k : List Int) (v : V) : GMap V := ⟨bif (m.f k).isSome then m.n else m.n + 1, fun q => if q = k then some v else m.f q⟩
def mnew {V : Type} : GMap V := ⟨0, fun _ => none⟩
theorem sa_n {S : St} : appL [] S = S := rfl
section
variable {P : Program} {rg : Nat} {t : Env} {K : AV → St → Prop} {V : Type} {enc : V → AV} {m : GMap V} {sh : KShape} {T kt et : TypeId} {ns : List Int}
end
end Go.Gg
namespace Go.Gg
/-- Two names of one place. -/
def AL (G : Ghost) (a : (Nat × Nat × Nat) × (Nat × Nat × Nat)) : Prop := ∃ L, G.loc a.1.1 a.1.2.1 a.1.2.2 = some L ∧ G.loc a.2.1 a.2.2.1 a.2.2.2 = some L
theorem AL.mono {G G' : Ghost} {a : (Nat × Nat × Nat) × (Nat × Nat × Nat)} (h : AL G a) (hg : G.le G') : AL G' a := let ⟨L, p, q⟩ := h; ⟨L, hg.loc _ _ _ _ p, hg.loc _ _ _ _ q⟩
abbrev ALs := List ((Nat × Nat × Nat) × (Nat × Nat × Nat))
/-- What is given out: its key, generation, contents, its new key. -/
abbrev Mv := Nat × Nat × GObj × Nat
/-! ### The same, named otherwise -/
def RN (A : ALs) (c c' : AV) : Prop := ∀ (G : Ghost) (x : Value), (∀ a ∈ A, AL G a) → VR G c x → VR G c' x
def RNL (A : ALs) : List AV → List AV → Prop
  | [], [] => True
  | c :: l, c' :: l' => RN A c c' ∧ RNL A l l'
  | _, _ => False
theorem RNL.len {A : ALs} : ∀ {l l' : List AV}, RNL A l l' → l.length = l'.length
  | [], [], _ => rfl
  | _ :: _, _ :: _, h => by simp [RNL.len h.2]
  | [], _ :: _, h => h.elim
  | _ :: _, [], h => h.elim
theorem RNL.at {A : ALs} : ∀ {l l' : List AV} {i : Nat} {c c' : AV}, RNL A l l' → l[i]? = some c → l'[i]? = some c' → RN A c c'
  | _ :: _, _ :: _, 0, _, _, h, h1, h2 => by simp at h1 h2; subst h1; subst h2; exact h.1
  | _ :: _, _ :: _, i + 1, _, _, h, h1, h2 => RNL.at h.2 (by simpa using h1) (by simpa using h2)
  | [], _, _, _, _, _, h1, _ => by simp at h1
  | _ :: _, [], _, _, _, h, _, _ => h.elim
end Go.Gg
