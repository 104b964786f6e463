/- An own logic over the kit's weakest preconditions, part T: rows within boxes, closures. Conditions: none. -/
import Derived.Test.YtiamkdpljeemkaaGc
/- An own logic over the kit's weakest preconditions, part T: rows within boxes, closures. Conditions: none. -/
namespace Go.Gg
/-- The contents of an object, seen otherwise in one ghost state. -/
def OWG (G : Ghost) : GObj → GObj → Prop
  | .arr kk es, .arr kk' es' => kk = kk' ∧ es.length = es'.length ∧ ∀ i (h : i < es.length) (h' : i < es'.length), es[i].cells.length = es'[i].cells.length ∧ ∀ j (h1 : j < es[i].cells.length) (h2 : j < es'[i].cells.length) z, VR G es[i].cells[j] z → VR G es'[i].cells[j] z
  | _, _ => False
theorem Rel.owG {G : Ghost} {S : St} {w : World} (h : Rel G S w) {r k g : Nat} {o o' : GObj} (hS : S r k = some (o, g)) (ho : OWG G o o') : Rel G (S.set r k o' g) w := by
  refine h.remap fun r' k' o2 g2 e => ?_
  simp only [St.set] at e
  split at e
  · rename_i hc
    obtain ⟨rfl, rfl⟩ := hc
    cases e
    refine ⟨o, hS, fun L hL => ?_⟩
    obtain ⟨L', hL', hobj, _⟩ := h.obj _ _ _ _ hS
    obtain rfl : L' = L := by rw [hL] at hL'; exact (Option.some.inj hL').symm
    cases o with
    | mp => exact ho.elim
    | arr kk es =>
    cases o' with
    | mp => exact ho.elim
    | arr kk' es' =>
    obtain ⟨rfl, hl, hv⟩ := ho
    obtain ⟨h1, h2, h3, h3', h4, h5⟩ := hobj
    refine ⟨h1, h2, by omega, h3', fun i hi => ?_, fun hc => ?_⟩
    · rw [← (hv i (by omega) hi).1]; exact h4 i (by omega)
    · obtain ⟨row, a1, a2, a3⟩ := h5 hc
      refine ⟨row, a1, a2, fun i hi j hj => ?_⟩
      have hvi := hv i (by omega) hi
      obtain ⟨z, z1, z2⟩ := a3 i (by omega) j (by rw [hvi.1]; exact hj)
      exact ⟨z, z1, hvi.2 j _ hj z z2⟩
  · exact ⟨o2, e, fun L hL => by
      obtain ⟨L', hL', hobj, _⟩ := h.obj _ _ _ _ e
      obtain rfl : L' = L := by rw [hL] at hL'; exact (Option.some.inj hL').symm
      exact hobj⟩
/-- A nil slice in a box becomes an empty row of the call's own. -/
theorem Vc.matB {P : Program} {n : Nat} {c : Code} {Q : AK} {t : Env} {S0 : St} {rg : Nat} {l : Objs} {a : AV} {b : Nat → AV} {kk g0 : Nat} (k0 i k k1 : Nat) (hS : lkp l k0 = some (.arr kk [a], g0)) (hc : a.cells[i]? = some .nil) (hk : 0 < k1) (hne : k ≠ k0)
    (hb : (fun g => (b g).cells) = fun g => a.cells.set i (.sl k1 rg k g 0 0)) (h : ∀ g, Vc P n c Q t (stL S0 rg ((k0, .arr kk [b g], g0) :: (k, .arr k1 [], g) :: l))) : Vc P n c Q t (stL S0 rg l) := by
  intro hok G w0 w hr ht
  obtain ⟨g, G', q1, q2, q3⟩ := hr.mat rg k k1 hk
  have hS2 : ((stL S0 rg l).set rg k (.arr k1 []) g) rg k0 = some (.arr kk [a], g0) := by
    simp only [St.set]
    rw [if_neg (fun hh => hne hh.2.symm), stL_at]
    exact hS
  have hcb : (b g).cells = a.cells.set i (.sl k1 rg k g 0 0) := congrFun hb g
  have q4 := q2.owG (o' := .arr kk [b g]) hS2 ⟨rfl, rfl, fun x h1 h2 => by
    have : x = 0 := by simpa using h1
    subst this
    simp only [List.getElem_cons_zero]
    refine ⟨by rw [hcb, List.length_set], fun j h3 h4 z hz => ?_⟩
    have e : (b g).cells[j] = (a.cells.set i (.sl k1 rg k g 0 0))[j]'(by rw [List.length_set]; exact h3) := by simp only [hcb]
    rw [e, List.getElem_set]
    split
    · rename_i hij
      subst hij
      rw [List.getElem?_eq_getElem h3] at hc
      rw [Option.some.inj hc] at hz
      cases hz
      exact q3
    · exact hz⟩
  rw [stL_set, stL_set] at q4
  exact wp_mono (h g hok G' w0 w q4 (ht.mono q1)) (fun _ _ _ he => AK.lift_mono q1 he)
/-- The elements of a row, seen otherwise one by one. -/
def OWA : List AV → List AV → Prop
  | [], [] => True
  | a :: l, b :: m => VWC a b ∧ OWA l m
  | _, _ => False
theorem OWA.len : ∀ {l m : List AV}, OWA l m → l.length = m.length
  | [], [], _ => rfl
  | _ :: _, _ :: _, h => by rw [List.length_cons, List.length_cons, OWA.len h.2]
  | [], _ :: _, h => h.elim
  | _ :: _, [], h => h.elim
theorem OWA.at : ∀ {l m : List AV}, OWA l m → ∀ i (h1 : i < l.length) (h2 : i < m.length), VWC l[i] m[i]
  | _ :: _, _ :: _, h, 0, _, _ => h.1
  | _ :: _, _ :: _, h, i + 1, h1, h2 => OWA.at h.2 i (by simpa using h1) (by simpa using h2)
  | [], _, _, _, h1, _ => absurd h1 (by simp)
  | _ :: _, [], h, _, _, _ => h.elim
theorem OW.all {kk : Nat} {l m : List AV} (h : OWA l m) : OW (.arr kk l) (.arr kk m) := ⟨rfl, h.len.symm, fun i h1 h2 => h.at i h1 h2⟩
end Go.Gg
namespace Go.Gg
theorem dk_n : DK [] := trivial
theorem dk_c {p : Nat × Nat} {X : List (Nat × Nat)} (h : ∀ q ∈ X, ¬ (q.1 = p.1 ∧ q.2 = p.2)) (h' : DK X) : DK (p :: X) := ⟨h, h'⟩
theorem ni_n {p : Nat × Nat} : ∀ q ∈ ([] : List (Nat × Nat)), ¬ (q.1 = p.1 ∧ q.2 = p.2) := fun _ h => by simp at h
theorem ni_c {p q : Nat × Nat} {X : List (Nat × Nat)} (h : ¬ (q.1 = p.1 ∧ q.2 = p.2)) (h' : ∀ q ∈ X, ¬ (q.1 = p.1 ∧ q.2 = p.2)) : ∀ q' ∈ q :: X, ¬ (q'.1 = p.1 ∧ q'.2 = p.2) := fun q' hq => by
  rcases List.mem_cons.1 hq with e | e
  · subst e; exact h
  · exact h' q' e
theorem ni_o {r r' a b : Nat} (h : Nat.beq b a = false) : ¬ (((r, b) : Nat × Nat).1 = ((r', a) : Nat × Nat).1 ∧ ((r, b) : Nat × Nat).2 = ((r', a) : Nat × Nat).2) := fun hh => ne_nbeq h hh.2
theorem ni_a {r r' a b : Nat} (h : r ≠ r') : ¬ (((r, b) : Nat × Nat).1 = ((r', a) : Nat × Nat).1 ∧ ((r, b) : Nat × Nat).2 = ((r', a) : Nat × Nat).2) := fun hh => h hh.1
theorem ni_s {p q : Nat × Nat} (h : ¬ (p.1 = q.1 ∧ p.2 = q.2)) : ¬ (q.1 = p.1 ∧ q.2 = p.2) := fun hh => h ⟨hh.1.symm, hh.2.symm⟩
theorem dk_at {p q : Nat × Nat} : ∀ {X : List (Nat × Nat)} (i j : Nat), DK X → Nat.ble (i + 1) j = true → X[i]? = some p → X[j]? = some q → ¬ (q.1 = p.1 ∧ q.2 = p.2)
  | [], i, _, _, _, h, _ => by simp at h
  | _ :: _, 0, 0, _, hij, _, _ => by simp at hij
  | x :: X, 0, j + 1, hd, _, h1, h2 => by
    simp at h1; subst h1
    exact hd.1 q (List.mem_of_getElem? (by simpa using h2))
  | x :: X, i + 1, 0, _, hij, _, _ => by simp at hij
  | x :: X, i + 1, j + 1, hd, hij, h1, h2 => dk_at i j hd.2 (by simpa using hij) (by simpa using h1) (by simpa using h2)
theorem sx_n {S : St} : stX S [] = S := rfl
theorem sx_c {S : St} {r k g : Nat} {o : GObj} {X : Exts} (h : S r k = some (o, g)) (h' : stX S X = S) : stX S ((r, k, o, g) :: X) = S := by
  show (stX S X).set r k o g = S
  rw [h']
  funext a b
  simp only [St.set]
  split
  · rename_i hc; obtain ⟨rfl, rfl⟩ := hc; exact h.symm
  · rfl
theorem sy_c {S S1 S2 : St} {r k g : Nat} {o : GObj} {X : Exts} (h : stX S X = S1) (h' : S1.set r k o g = S2) : stX S ((r, k, o, g) :: X) = S2 := by
  show (stX S X).set r k o g = S2
  rw [h, h']
/-- A nil slice in a box becomes an empty row of the call's own. -/
theorem Wl.matB {P : Program} {n : Nat} {ops c : List Oper} {K : Env → St → Prop} {t : Env} {S0 : St} {rg : Nat} {l : Objs} {a : AV} {b : Nat → AV} {kk g0 : Nat} (k0 i k k1 : Nat) (hS : lkp l k0 = some (.arr kk [a], g0)) (hc : a.cells[i]? = some .nil) (hk : 0 < k1) (hne : k ≠ k0)
    (hb : (fun g => (b g).cells) = fun g => a.cells.set i (.sl k1 rg k g 0 0)) (h : ∀ g, Wl P n ops c K t (stL S0 rg ((k0, .arr kk [b g], g0) :: (k, .arr k1 [], g) :: l))) : Wl P n ops c K t (stL S0 rg l) := by
  intro hok G w0 w Q hr ht hQ
  obtain ⟨g, G', q1, q2, q3⟩ := hr.mat rg k k1 hk
  have hS2 : ((stL S0 rg l).set rg k (.arr k1 []) g) rg k0 = some (.arr kk [a], g0) := by
    simp only [St.set]
    rw [if_neg (fun hh => hne hh.2.symm), stL_at]
    exact hS
  have hcb : (b g).cells = a.cells.set i (.sl k1 rg k g 0 0) := congrFun hb g
  have q4 := q2.owG (o' := .arr kk [b g]) hS2 ⟨rfl, rfl, fun x h1 h2 => by
    have : x = 0 := by simpa using h1
    subst this
    simp only [List.getElem_cons_zero]
    refine ⟨by rw [hcb, List.length_set], fun j h3 h4 z hz => ?_⟩
    have e : (b g).cells[j] = (a.cells.set i (.sl k1 rg k g 0 0))[j]'(by rw [List.length_set]; exact h3) := by simp only [hcb]
    rw [e, List.getElem_set]
    split
    · rename_i hij
      subst hij
      rw [List.getElem?_eq_getElem h3] at hc
      rw [Option.some.inj hc] at hz
      cases hz
      exact q3
    · exact hz⟩
  rw [stL_set, stL_set] at q4
  exact h g hok G' w0 w Q q4 (ht.mono q1) (fun a w hl => hQ a w (Gg.lift_mono hl q1))
theorem ag {l : List Key} {S S' : St} {r k : Nat} {x : GObj × Nat} (h : agree2 l S' S) (i : Nat) (hi : l[i]? = some (r, k)) (hS : S r k = some x) : S' r k = some x := (h (r, k) (List.mem_of_getElem? hi)).trans hS
theorem sm_c {S : St} {x : Nat × Nat × GObj × Nat} {X Y : Exts} (h : stX S X = appL Y S) : stX S (x :: X) = appL (x :: Y) S := by
  show (stX S X).set _ _ _ _ = (appL Y S).set _ _ _ _
  rw [h]
/-- A call with effects in a region that draws its order. -/
theorem dCE {P : Program} {rg : Nat} {us : Nat → CR2} {ops rest : List Oper} {d : Option Nat} {ty : TypeId} {pos : String} {after : Array Edge} {j : Nat} {log : Log} {t : Env} {S : St} {K : Env → St → Prop} {f : Operand} {xs : List Operand} {ts : Array TypeId} {g : FuncId} {fs caps vs : List AV}
    {V : Gen → AV} {rd wk : List Key} {wr : Gen → List WE} (hf : ev t f = .fn (.func g) fs caps) (ha : VWL (fs ++ (xs.map (ev t) ++ caps)) vs) (hu : us j = wc V rd wk wr) (hcf : cf ops log j (rd, wk)) (hne : (rd, wk) ≠ (([], []) : Eff2)) (hk : ∀ γ, (wr γ).map (fun x => (x.1, x.2.1)) = wk)
    (hc : ∀ S', agree2 rd S' S → agree2 wk S' S → Ctr P g vs S' (fun v S'' => ∃ γ, v = V γ ∧ S'' = appL (wr γ) S'))
    (h : ∀ γ, vdT P rg us ops rest (j + 1) ((j, (rd, wk)) :: log) (updo t d (V γ)) (appL (wr γ) S) K) : vdT P rg us ops (⟨d, .call { callee := .value f, args := xs.toArray, argTypes := ts }, ty, pos, after, none⟩ :: rest) j log t S K := by
  rw [vdT_call, hu]
  refine ⟨hcf, ?_⟩
  rw [hf]
  refine ⟨⟨fun γ x hx => ?_, fun S' h1 h2 => Ctr.arg ha.len (fun i h1 h2 => ha.at i h1 h2) (hc S' h1 h2)⟩, fun γ => ?_⟩
  · rw [show (wc V rd wk wr).wk = wk from rfl, ← hk γ]
    exact List.mem_map.2 ⟨x, hx, rfl⟩
  · have := h γ
    rw [show lg j ((wc V rd wk wr).rd, (wc V rd wk wr).wk) log = (j, (rd, wk)) :: log from lg_ne hne]
    exact this
theorem vdT.eqS {P : Program} {rg : Nat} {us : Nat → CR2} {ops rest : List Oper} {j : Nat} {log : Log} {t : Env} {S S' : St} {K : Env → St → Prop} (e : S = S') (h : vdT P rg us ops rest j log t S' K) : vdT P rg us ops rest j log t S K := e ▸ h
end Go.Gg
namespace Go.Gg
open Go.RowKit (Below)
section
variable {α : Type} {S S0 : St} {rf rg kk : Nat} {enc : α → AV} {gs : Nat → Nat} {T : List (List α)} {L : Objs}
end
/-! ### Operations -/
section
variable {α : Type} {P : Program} {rg rf kk : Nat} {enc : α → AV} {gs gs' : Nat → Nat} {T T' : List (List α)} {t : Env} {S0 : St} {L : Objs} {K : AV → St → Prop} {x y a : Operand} {m : Int} {d : Option Nat} {Ty e : TypeId}
end
section
variable {P : Program} {n : Nat} {ops rest : List Oper} {K : Env → St → Prop} {d : Option Nat} {ty : TypeId} {pos : String} {after : Array Edge} {t : Env} {S : St} {x : Operand}
end
end Go.Gg
namespace Go.Gg
/-- A map: how many entries, and what stands at a key. -/
structure GMap (V : Type) where
  n : Nat
  f : List Int → Option V
def mget {V : Type} (m : GMap V) (k : List Int) : Option V := m.f k
def mput {V : Type} (m : GMap V) (k : List Int) (v : V) : GMap V := ⟨bif (m.f k).isSome then m.n else m.n + 1, fun q => if q = k then some v else m.f q⟩
def mnew {V : Type} : GMap V := ⟨0, fun _ => none⟩
def mapE {V : Type} (enc : V → AV) (sh : KShape) (m : GMap V) : GObj := .mp sh m.n (fun q => (m.f q).map enc)
theorem sa_n {S : St} : appL [] S = S := rfl
theorem sa_c {S S1 S2 : St} {r k g : Nat} {o : GObj} {X : List WE} (h : appL X S = S1) (h' : S1.set r k o g = S2) : appL ((r, k, o, g) :: X) S = S2 := by
  show (appL X S).set r k o g = S2
  rw [h, h']
section
variable {P : Program} {rg : Nat} {t : Env} {K : AV → St → Prop} {V : Type} {enc : V → AV} {m : GMap V} {sh : KShape} {T kt et : TypeId} {ns : List Int}
theorem o_lookup2 {S : St} {d : Option Nat} {z : V} {r k g : Nat} {x i : Operand} (hS : S r k = some (mapE enc sh m, g)) (hT : td P T = .map kt et) (hk : kshape P kt = some sh) (hok : tyok P et = true) (hz : zav P et = enc z) (hx : ev t x = .map r k g) (hi : mapKey sh (ev t i) = some ns)
    (h : K (.tuple [enc ((mget m ns).getD z), .bool (mget m ns).isSome]) S) : vo P rg d (.lookup T x i true) t S K := by
  rw [vo_lookup, hx]
  simp only [vLookup, hS, mapE, hT, hi]
  refine ⟨⟨trivial, hk, hok⟩, ?_⟩
  rw [hz]
  unfold mget at h
  cases hm : m.f ns <;> rw [hm] at h <;> exact h
theorem o_lookup1 {S : St} {d : Option Nat} {z : V} {r k g : Nat} {x i : Operand} (hS : S r k = some (mapE enc sh m, g)) (hT : td P T = .map kt et) (hk : kshape P kt = some sh) (hok : tyok P et = true) (hz : zav P et = enc z) (hx : ev t x = .map r k g) (hi : mapKey sh (ev t i) = some ns)
    (h : K (enc ((mget m ns).getD z)) S) : vo P rg d (.lookup T x i false) t S K := by
  rw [vo_lookup, hx]
  simp only [vLookup, hS, mapE, hT, hi]
  refine ⟨⟨trivial, hk, hok⟩, ?_⟩
  rw [hz]
  unfold mget at h
  cases hm : m.f ns <;> rw [hm] at h <;> exact h
theorem o_lenM {S : St} {d : Option Nat} {r k g : Nat} {x : Operand} (hS : S r k = some (mapE enc sh m, g)) (hT : td P T = .map kt et) (hx : ev t x = .map r k g) (h : K (.int .i64 m.n) S) : vo P rg d (.call { callee := .builtin .len, args := #[x], argTypes := #[T] }) t S K := by
  rw [vo_len, hx]
  simp only [vLenS, hS, mapE, hT]
  exact ⟨trivial, h⟩
theorem mapE_put {v : V} : mapE enc sh (mput m ns v) = .mp sh (bif ((m.f ns).map enc).isSome then m.n else m.n + 1) (fun q => if q = ns then some (enc v) else (m.f q).map enc) := by
  unfold mapE mput
  congr 1
  · cases m.f ns <;> rfl
  · funext q
    by_cases h : q = ns
    · simp [h]
    · simp [h]
theorem o_mapUpd {S S' : St} {d : Option Nat} {v : V} {r k g : Nat} {y i x : Operand} (hS : S r k = some (mapE enc sh m, g)) (hT : td P T = .map kt et) (hk : kshape P kt = some sh) (hy : ev t y = .map r k g) (hi : mapKey sh (ev t i) = some ns) (hx : ev t x = enc v)
    (hp : S.set r k (mapE enc sh (mput m ns v)) g = S') (h : K .junk S') : vo P rg d (.mapUpdate T y i x) t S K := by
  rw [vo_mapUpd, hy]
  have hS' : S r k = some (.mp sh m.n (fun q => (m.f q).map enc), g) := hS
  simp only [vMapUpd, hS', hT, hi]
  refine ⟨⟨trivial, hk⟩, ?_⟩
  rw [hx, ← mapE_put, hp]
  exact h
theorem o_insert {S S' : St} {d : Option Nat} {v : V} {r k g : Nat} {y i x : Operand} (hS : S r k = some (mapE enc sh m, g)) (hT : td P T = .map kt et) (hk : kshape P kt = some sh) (hy : ev t y = .map r k g) (hi : mapKey sh (ev t i) = some ns) (hx : ev t x = enc v)
    (hp : S.set r k (mapE enc sh (mput m ns v)) g = S') (h : K .junk S') : vo P rg d (.insert T y i x) t S K := by
  rw [vo_insert, hy]
  have hS' : S r k = some (.mp sh m.n (fun q => (m.f q).map enc), g) := hS
  simp only [vMapUpd, hS', hT, hi]
  refine ⟨⟨trivial, hk⟩, ?_⟩
  rw [hx, ← mapE_put, hp]
  exact h
theorem o_makeMap {S0 : St} {L : Objs} {d : Nat} {hint : Option Operand} (hT : td P T = .map kt et) (hk : kshape P kt = some sh) (hh : (match hint.map (ev t) with | none => True | some (.int _ _) => True | _ => False))
    (h : ∀ g, K (.map rg d g) (stL S0 rg ((d, mapE enc sh mnew, g) :: L))) : vo P rg (some d) (.makeMap T hint) t (stL S0 rg L) K := by
  rw [vo_makeMap]
  simp only [vMakeMap, hT, hk]
  refine ⟨hh, fun g => ?_⟩
  have := h g
  rw [← setL (o := mapE enc sh mnew)] at this
  exact this
theorem o_min3 {S : St} {d : Option Nat} {k : IntKind} {a b c : Int} {x y z : Operand} {ts : Array TypeId} (hx : ev t x = .int k a) (hy : ev t y = .int k b) (hz : ev t z = .int k c) (h : K (.int k (min (min a b) c)) S) : vo P rg d (.call { callee := .builtin .min, args := #[x, y, z], argTypes := ts }) t S K := by
  show (match ev t x, ev t y, ev t z with | .int k m, .int _ n, .int _ q => K (.int k (if q < (if n < m then n else m) then q else (if n < m then n else m))) S | _, _, _ => False)
  rw [hx, hy, hz]
  have e1 : (if b < a then b else a) = min a b := by split <;> omega
  have e2 : (if c < min a b then c else min a b) = min (min a b) c := by split <;> omega
  simp only [e1, e2]; exact h
/-- An array's literal. -/
theorem o_buildA {S : St} {d : Option Nat} {n len s : Nat} {e : TypeId} {z v : AV} {parts : List (Nat × Operand)} {ps : List (Nat × AV)} (hT : td P T = .array len e) (hz : zav P T = z) (hok : tyok P T = true) (hg : isAggZ z = true) (hs : sz P e = s) (h0 : 0 < s) (hsT : sz P T = n) (hp : parts.map (fun p => (p.1, ev t p.2)) = ps)
    (hc : (ps.all fun p => p.2.solid && (Nat.beq p.2.cells.length s && Nat.ble (p.1 * s + p.2.cells.length) n)) = true) (hv : ps.foldl (fun v p => stv v (p.1 * s) p.2) z = v) (h : K v S) : vo P rg d (.build T parts.toArray) t S K := by
  rw [vo_build, vBuild, hT]
  simp only []
  refine ⟨by rw [hok, hz, hg, hs]; simpa using h0, ?_, ?_⟩
  · rw [hp]
    rw [List.all_eq_true] at hc ⊢
    intro p hm
    have := hc p hm
    simp only [Bool.and_eq_true, Nat.ble_eq] at this
    obtain ⟨a1, a2, a3⟩ := this
    simp only [Bool.and_eq_true, beq_iff_eq, decide_eq_true_eq]
    exact ⟨⟨a1, by rw [hs]; exact Nat.eq_of_beq_eq_true a2⟩, by rw [hs, hsT]; exact a3⟩
  · rw [hp, hz, hs, hv]; exact h
/-- Structures of integers, compared. -/
theorem o_eqlS {S : St} {d : Option Nat} {T' : TypeId} {ks : List IntKind} {as bs : List AV} {l l' : List Int} {x y : Operand} (hk : kshape P T = some (.many ks)) (hx : ev t x = .agg as) (hy : ev t y = .agg bs) (h1 : keyL ks as = some l) (h2 : keyL ks bs = some l') (h : K (.bool (decide (l = l'))) S) : vo P rg d (.binOp .eql T x y T') t S K := by
  rw [vo_bin, hx, hy]
  simp only [vBin, hk, h1, h2]
  exact h
theorem o_neqS {S : St} {d : Option Nat} {T' : TypeId} {ks : List IntKind} {as bs : List AV} {l l' : List Int} {x y : Operand} (hk : kshape P T = some (.many ks)) (hx : ev t x = .agg as) (hy : ev t y = .agg bs) (h1 : keyL ks as = some l) (h2 : keyL ks bs = some l') (h : K (.bool (!decide (l = l'))) S) : vo P rg d (.binOp .neq T x y T') t S K := by
  rw [vo_bin, hx, hy]
  simp only [vBin, hk, h1, h2]
  exact h
end
end Go.Gg
namespace Go.Gg
/-- Two names of one place. -/
def AL (G : Ghost) (a : (Nat × Nat × Nat) × (Nat × Nat × Nat)) : Prop := ∃ L, G.loc a.1.1 a.1.2.1 a.1.2.2 = some L ∧ G.loc a.2.1 a.2.2.1 a.2.2.2 = some L
theorem AL.mono {G G' : Ghost} {a : (Nat × Nat × Nat) × (Nat × Nat × Nat)} (h : AL G a) (hg : G.le G') : AL G' a := let ⟨L, p, q⟩ := h; ⟨L, hg.loc _ _ _ _ p, hg.loc _ _ _ _ q⟩
abbrev ALs := List ((Nat × Nat × Nat) × (Nat × Nat × Nat))
/-- What is given out: its key, generation, contents, its new key. -/
abbrev Mv := Nat × Nat × GObj × Nat
def mvX (q : Nat) (γ : Nat → Nat) : List Mv → Nat → Exts
  | [], _ => []
  | m :: M, i => (q, m.2.2.2, m.2.2.1, γ i) :: mvX q γ M (i + 1)
def mvA (rg q : Nat) (γ : Nat → Nat) : List Mv → Nat → ALs
  | [], _ => []
  | m :: M, i => ((rg, m.1, m.2.1), (q, m.2.2.2, γ i)) :: mvA rg q γ M (i + 1)
def mvOk (l : Objs) : List Mv → Prop
  | [] => True
  | m :: M => lkp l m.1 = some (m.2.2.1, m.2.1) ∧ (M.all fun x => !(Nat.beq x.1 m.1)) = true ∧ mvOk l M
theorem mvOk_mem {l : Objs} : ∀ {M : List Mv} {m : Mv}, mvOk l M → m ∈ M → lkp l m.1 = some (m.2.2.1, m.2.1)
  | _ :: _, _, h, hm => by
    rcases List.mem_cons.1 hm with rfl | hm
    · exact h.1
    · exact mvOk_mem h.2.2 hm
theorem mvX_congr {q : Nat} {γ γ' : Nat → Nat} : ∀ {M : List Mv} {i : Nat}, (∀ j, i ≤ j → γ j = γ' j) → mvX q γ M i = mvX q γ' M i
  | [], _, _ => rfl
  | m :: M, i, h => by rw [mvX, mvX, h i (Nat.le_refl _), mvX_congr (M := M) (i := i + 1) (fun j hj => h j (by omega))]
theorem mvA_congr {rg q : Nat} {γ γ' : Nat → Nat} : ∀ {M : List Mv} {i : Nat}, (∀ j, i ≤ j → γ j = γ' j) → mvA rg q γ M i = mvA rg q γ' M i
  | [], _, _ => rfl
  | m :: M, i, h => by rw [mvA, mvA, h i (Nat.le_refl _), mvA_congr (M := M) (i := i + 1) (fun j hj => h j (by omega))]
theorem mvX_src {S : St} {rg q r k g : Nat} {γ : Nat → Nat} {o : GObj} : ∀ {M : List Mv} {i : Nat}, stX S (mvX q γ M i) r k = some (o, g) → S r k = some (o, g) ∨ ∃ m ∈ M, r = q ∧ k = m.2.2.2 ∧ o = m.2.2.1 ∧ ((rg, m.1, m.2.1), (q, k, g)) ∈ mvA rg q γ M i
  | [], _, h => .inl h
  | m :: M, i, h => by
    simp only [mvX, stX, St.set] at h
    split at h
    · rename_i hc
      cases h
      exact .inr ⟨m, by simp, hc.1, hc.2, rfl, by rw [hc.2]; simp [mvA]⟩
    · rcases mvX_src (M := M) h with h | ⟨m', h1, h2, h3, h4, h5⟩
      · exact .inl h
      · exact .inr ⟨m', by simp [h1], h2, h3, h4, by rw [mvA]; exact List.mem_cons_of_mem _ h5⟩
theorem Rel.movesOut {G : Ghost} {S : St} {w : World} {rg : Nat} {l : Objs} (h : Rel G (stL S rg l) w) (hrg : ∀ k, S rg k = none) (q : Nat) : ∀ (M : List Mv) (i : Nat), mvOk l M →
    ∃ (γ : Nat → Nat) (G' : Ghost), G.le G' ∧ G'.imm = G.imm ∧ Rel G' (stX S (mvX q γ M i)) w ∧ ∀ a ∈ mvA rg q γ M i, AL G' a
  | [], i, _ => ⟨fun _ => 0, G, Ghost.le.refl G, rfl, h.sub (fun r k x e => by
      have hne : r ≠ rg := by rintro rfl; rw [show stX S (mvX q (fun _ => 0) [] i) = S from rfl, hrg] at e; cases e
      rw [stL_ne hne]; exact e), fun a ha => by simp [mvA] at ha⟩
  | m :: M, i, hM => by
    obtain ⟨γ, G1, le1, im1, rel1, al1⟩ := Rel.movesOut h hrg q M (i + 1) hM.2.2
    obtain ⟨k0, g, o, k⟩ := m
    obtain ⟨g', hg'⟩ := rel1.fresh q k
    obtain ⟨L, hL, hobj, hown⟩ := h.obj rg k0 o g (by rw [stL_at]; exact hM.1)
    have hL1 := le1.loc _ _ _ _ hL
    let G' : Ghost := { G1 with loc := fun r2 k2 g2 => if r2 = q ∧ k2 = k ∧ g2 = g' then some L else G1.loc r2 k2 g2 }
    have hle : G1.le G' := by
      refine ⟨rfl, fun _ _ _ e => e, fun r2 k2 g2 L2 e => ?_⟩
      show (if r2 = q ∧ k2 = k ∧ g2 = g' then some L else G1.loc r2 k2 g2) = some L2
      split
      · rename_i hc; obtain ⟨rfl, rfl, rfl⟩ := hc; rw [hg'] at e; cases e
      · exact e
    have hloc : G'.loc q k g' = some L := by
      show (if q = q ∧ k = k ∧ g' = g' then some L else _) = _
      rw [if_pos ⟨rfl, rfl, rfl⟩]
    have hγ : ∀ j, i + 1 ≤ j → γ j = (fun j => if j = i then g' else γ j) j := fun j hj => by simp only; rw [if_neg (by omega)]
    have hlow : ∀ {r2 k2 o2 g2}, S r2 k2 = some (o2, g2) → stL S rg l r2 k2 = some (o2, g2) ∧ r2 ≠ rg := fun {r2 k2 o2 g2} e => by
      have hne : r2 ≠ rg := by rintro rfl; rw [hrg] at e; cases e
      exact ⟨by rw [stL_ne hne]; exact e, hne⟩
    -- another object stands elsewhere
    have apart : ∀ {r2 k2 o2 g2 L2}, stX S (mvX q γ M (i + 1)) r2 k2 = some (o2, g2) → G1.loc r2 k2 g2 = some L2 → 0 < L.cap → 0 < L2.cap → L.block ≠ L2.block := by
      intro r2 k2 o2 g2 L2 e l2 c1 c2
      rcases mvX_src (rg := rg) e with e | ⟨m', h1, rfl, rfl, rfl, h5⟩
      · obtain ⟨e1, hne⟩ := hlow e
        obtain ⟨L3, q1, _⟩ := h.obj _ _ _ _ e1
        rw [le1.loc _ _ _ _ q1] at l2
        cases l2
        exact h.inj rg k0 o g r2 k2 o2 g2 _ _ (by rw [stL_at]; exact hM.1) e1 hL q1 c1 c2 (fun hc => hne hc.1.symm)
      · obtain ⟨L3, a1, a2⟩ := al1 _ h5
        simp only at a1 a2
        rw [a2] at l2
        cases l2
        have hm' := mvOk_mem hM.2.2 h1
        obtain ⟨L4, q1, _⟩ := h.obj rg m'.1 m'.2.2.1 m'.2.1 (by rw [stL_at]; exact hm')
        rw [le1.loc _ _ _ _ q1] at a1
        cases a1
        have hk : m'.1 ≠ k0 := by
          have := List.all_eq_true.1 hM.2.1 m' h1
          intro hc
          rw [hc] at this
          simp at this
        exact h.inj rg k0 o g rg m'.1 m'.2.2.1 m'.2.1 _ _ (by rw [stL_at]; exact hM.1) (by rw [stL_at]; exact hm') hL q1 c1 c2 (fun hc => hk hc.2.symm)
    refine ⟨fun j => if j = i then g' else γ j, G', le1.trans hle, im1, ?_, ?_⟩
    · show Rel G' ((stX S (mvX q _ M (i + 1))).set q k o (if i = i then g' else γ i)) w
      rw [← mvX_congr hγ, if_pos rfl]
      have src : ∀ {r2 k2 o2 g2 L2}, ((stX S (mvX q γ M (i + 1))).set q k o g') r2 k2 = some (o2, g2) → G'.loc r2 k2 g2 = some L2 → (r2 = q ∧ k2 = k ∧ L2 = L) ∨ (¬ (r2 = q ∧ k2 = k) ∧ stX S (mvX q γ M (i + 1)) r2 k2 = some (o2, g2) ∧ G1.loc r2 k2 g2 = some L2) := by
        intro r2 k2 o2 g2 L2 e l2
        simp only [St.set] at e
        split at e
        · rename_i hc; obtain ⟨rfl, rfl⟩ := hc; cases e; rw [hloc] at l2; exact .inl ⟨rfl, rfl, (Option.some.inj l2).symm⟩
        · rename_i hc
          obtain ⟨L3, q1, _⟩ := rel1.obj _ _ _ _ e
          have := hle.loc _ _ _ _ q1
          rw [this] at l2
          cases l2
          exact .inr ⟨hc, e, q1⟩
      refine ⟨rel1.below, rel1.imm, ?_, ?_, ?_, ?_⟩
      · intro r2 k2 o2 g2 e
        simp only [St.set] at e
        split at e
        · rename_i hc; obtain ⟨rfl, rfl⟩ := hc; cases e
          refine ⟨L, hloc, hobj.keep (le1.trans hle) (fun _ => rfl), fun hc => ?_⟩
          have h1 := hown hc
          exact ⟨by rw [show G'.init = G1.init from rfl, le1.init]; exact h1.1, fun x => by rw [show G'.imm = G1.imm from rfl, im1]; exact h1.2 x⟩
        · obtain ⟨L2, q1, q2, q3⟩ := rel1.obj _ _ _ _ e
          exact ⟨L2, hle.loc _ _ _ _ q1, q2.keep hle (fun _ => rfl), q3⟩
      · intro r1 k1 o1 g1 r2 k2 o2 g2 L1 L2 e1 e2 l1 l2 c1 c2 hne
        rcases src e1 l1 with ⟨rfl, rfl, rfl⟩ | ⟨hn1, f1, m1⟩
        · rcases src e2 l2 with ⟨rfl, rfl, rfl⟩ | ⟨hn2, f2, m2⟩
          · exact absurd ⟨rfl, rfl⟩ hne
          · exact apart f2 m2 c1 c2
        · rcases src e2 l2 with ⟨rfl, rfl, rfl⟩ | ⟨hn2, f2, m2⟩
          · exact (apart f1 m1 c2 c1).symm
          · exact rel1.inj _ _ _ _ _ _ _ _ _ _ f1 f2 m1 m2 c1 c2 hne
      · obtain ⟨N, hN⟩ := rel1.fin
        refine ⟨max N (q + 1), fun r2 hr k2 => ?_⟩
        simp only [St.set]
        rw [if_neg (fun hc => by omega)]
        exact hN r2 (by omega) k2
      · intro r2 k2
        obtain ⟨N, hN⟩ := rel1.fing r2 k2
        refine ⟨max N (g' + 1), fun g2 hg2 => ?_⟩
        show (if r2 = q ∧ k2 = k ∧ g2 = g' then some L else G1.loc r2 k2 g2) = none
        rw [if_neg (fun hc => by omega)]
        exact hN g2 (by omega)
    · intro a ha
      rw [mvA] at ha
      rcases List.mem_cons.1 ha with rfl | ha
      · exact ⟨L, hle.loc _ _ _ _ hL1, by simp only [if_pos]; exact hloc⟩
      · rw [← mvA_congr hγ] at ha
        exact (al1 a ha).mono hle
/-! ### The same, named otherwise -/
def RN (A : ALs) (c c' : AV) : Prop := ∀ (G : Ghost) (x : Value), (∀ a ∈ A, AL G a) → VR G c x → VR G c' x
theorem rn_r {A : ALs} {c : AV} : RN A c c := fun _ _ _ h => h
theorem rn_p {A : ALs} {r k g r' k' g' j off : Nat} (i : Nat) (h : A[i]? = some ((r, k, g), (r', k', g'))) : RN A (.ptr r k g j off) (.ptr r' k' g' j off) := fun G x hA hv => by
  obtain ⟨L, a1, a2⟩ := hA _ (List.mem_of_getElem? h)
  cases hv with
  | ptr _ _ _ _ _ L' h1 => simp only at a1; rw [a1] at h1; cases h1; exact .ptr _ _ _ _ _ _ a2
theorem rn_m {A : ALs} {r k g r' k' g' : Nat} (i : Nat) (h : A[i]? = some ((r, k, g), (r', k', g'))) : RN A (.map r k g) (.map r' k' g') := fun G x hA hv => by
  obtain ⟨L, a1, a2⟩ := hA _ (List.mem_of_getElem? h)
  cases hv with
  | map _ _ _ L' h1 => simp only at a1; rw [a1] at h1; cases h1; exact .map _ _ _ _ a2
theorem rn_s {A : ALs} {kk r k g r' k' g' off n : Nat} (i : Nat) (h : A[i]? = some ((r, k, g), (r', k', g'))) : RN A (.sl kk r k g off n) (.sl kk r' k' g' off n) := fun G x hA hv => by
  obtain ⟨L, a1, a2⟩ := hA _ (List.mem_of_getElem? h)
  cases hv with
  | sl _ _ _ _ _ _ a L' h1 h2 h3 h4 h5 => simp only at a1; rw [a1] at h1; cases h1; exact .sl _ _ _ _ _ _ _ _ a2 h2 h3 h4 h5
def RNL (A : ALs) : List AV → List AV → Prop
  | [], [] => True
  | c :: l, c' :: l' => RN A c c' ∧ RNL A l l'
  | _, _ => False
theorem rl_n {A : ALs} : RNL A [] [] := trivial
theorem rl_c {A : ALs} {c c' : AV} {l l' : List AV} (h : RN A c c') (h' : RNL A l l') : RNL A (c :: l) (c' :: l') := ⟨h, h'⟩
theorem RNL.len {A : ALs} : ∀ {l l' : List AV}, RNL A l l' → l.length = l'.length
  | [], [], _ => rfl
  | _ :: _, _ :: _, h => by simp [RNL.len h.2]
  | [], _ :: _, h => h.elim
  | _ :: _, [], h => h.elim
theorem RNL.at {A : ALs} : ∀ {l l' : List AV} {i : Nat} {c c' : AV}, RNL A l l' → l[i]? = some c → l'[i]? = some c' → RN A c c'
  | _ :: _, _ :: _, 0, _, _, h, h1, h2 => by simp at h1 h2; subst h1; subst h2; exact h.1
  | _ :: _, _ :: _, i + 1, _, _, h, h1, h2 => RNL.at h.2 (by simpa using h1) (by simpa using h2)
  | [], _, _, _, _, _, h1, _ => by simp at h1
  | _ :: _, [], _, _, _, h, _, _ => h.elim
theorem rn_tup {A : ALs} {l l' : List AV} (h : RNL A l l') : RN A (.tuple l) (.tuple l') := fun G x hA hv => by
  cases hv with
  | tuple _ xs hs hc => exact .tuple _ _ (hs.trans h.len) (fun i h1 h2 => h.at (List.getElem?_eq_getElem (by rw [h.len]; exact h1)) (List.getElem?_eq_getElem h1) G _ hA (hc i _ h2))
def RO (A : ALs) (o o' : GObj) : Prop := ∀ (G : Ghost) (w : World) (L : Loc), (∀ a ∈ A, AL G a) → ObjAt G w L o → ObjAt G w L o'
theorem ro_r {A : ALs} {o : GObj} : RO A o o := fun _ _ _ _ h => h
theorem ro_b {A : ALs} {kk : Nat} {a b : AV} (h : RNL A a.cells b.cells) : RO A (.arr kk [a]) (.arr kk [b]) := fun G w L hA ho => by
  obtain ⟨h1, h2, h3, h3', h4, h5⟩ := ho
  refine ⟨h1, h2, h3, h3', fun i hi => ?_, fun hc => ?_⟩
  · have : i = 0 := by simpa using hi
    subst this
    have := h4 0 (by simp)
    simp only [List.getElem_cons_zero] at this ⊢
    rw [← h.len]; exact this
  · obtain ⟨row, a1, a2, a3⟩ := h5 hc
    refine ⟨row, a1, a2, fun i hi j hj => ?_⟩
    have : i = 0 := by simpa using hi
    subst this
    simp only [List.getElem_cons_zero] at hj ⊢
    obtain ⟨z, z1, z2⟩ := a3 0 (by simp) j (by simp only [List.getElem_cons_zero]; rw [h.len]; exact hj)
    simp only [List.getElem_cons_zero] at z2
    exact ⟨z, z1, h.at (List.getElem?_eq_getElem (by rw [h.len]; exact hj)) (List.getElem?_eq_getElem hj) G z hA z2⟩
def ROX (A : ALs) : Exts → Exts → Prop
  | [], [] => True
  | x :: X, y :: Y => (x.1 = y.1 ∧ x.2.1 = y.2.1 ∧ x.2.2.2 = y.2.2.2) ∧ RO A x.2.2.1 y.2.2.1 ∧ ROX A X Y
  | _, _ => False
theorem rx_n {A : ALs} : ROX A [] [] := trivial
theorem rx_c {A : ALs} {r k g : Nat} {o o' : GObj} {X Y : Exts} (h : RO A o o') (h' : ROX A X Y) : ROX A ((r, k, o, g) :: X) ((r, k, o', g) :: Y) := ⟨⟨rfl, rfl, rfl⟩, h, h'⟩
theorem rox_src {A : ALs} {S : St} {r k g : Nat} {o' : GObj} : ∀ {X Y : Exts}, ROX A X Y → stX S Y r k = some (o', g) → ∃ o, stX S X r k = some (o, g) ∧ RO A o o'
  | [], [], _, h => ⟨o', h, ro_r⟩
  | [], _ :: _, h, _ => h.elim
  | _ :: _, [], h, _ => h.elim
  | (r1, k1, o1, g1) :: X, (r2, k2, o2, g2) :: Y, h, e => by
    obtain ⟨⟨a, b, c⟩, ho, h'⟩ := h
    simp only at a b c ho
    subst a; subst b; subst c
    simp only [stX, St.set] at e ⊢
    split at e
    · rename_i hc; cases e; exact ⟨o1, by rw [if_pos hc], ho⟩
    · rename_i hc
      obtain ⟨o, h1, h2⟩ := rox_src h' e
      exact ⟨o, by rw [if_neg hc]; exact h1, h2⟩
/-- A value is given out with the objects that it leads to. -/
theorem gives_objs {R : AV → St → Prop} {v : AV} {S : St} {rg : Nat} {l : Objs} (q : Nat) (hrg : ∀ k, S rg k = none) (M : List Mv) (hM : mvOk l M) (v' : (Nat → Nat) → AV) (X : (Nat → Nat) → Exts)
    (hX : ∀ γ, ROX (mvA rg q γ M 0) (mvX q γ M 0) (X γ)) (hv : ∀ γ, RN (mvA rg q γ M 0) v (v' γ)) (h : ∀ γ, R (v' γ) (stX S (X γ))) : Gives R v (stL S rg l) := fun G w x hr hx => by
  obtain ⟨γ, G', a1, _, a3, a4⟩ := hr.movesOut hrg q M 0 hM
  refine ⟨_, _, G', h γ, a1, a3.remap fun r k o' g e => ?_, hv γ G' x a4 (hx.mono a1)⟩
  obtain ⟨o, e1, e2⟩ := rox_src (hX γ) e
  refine ⟨o, e1, fun L hL => ?_⟩
  obtain ⟨L', hL', hobj, _⟩ := a3.obj _ _ _ _ e1
  obtain rfl : L' = L := by rw [hL] at hL'; exact (Option.some.inj hL').symm
  exact e2 G' w L' a4 hobj
/-- A nil slice in an argument goes as an empty row. -/
theorem Ctr.matC {P : Program} {f : FuncId} {as cs : List AV} {S : St} {R : AV → St → Prop} (i j r k kk : Nat) (h0 : as[i]? = some (.agg cs)) (h1 : cs[j]? = some .nil) (hk : 0 < kk) (h : ∀ g, Ctr P f (as.set i (.agg (cs.set j (.sl kk r k g 0 0)))) (S.set r k (.arr kk []) g) R) : Ctr P f as S R := by
  refine ⟨(h 0).1, fun G w vs hr hvs => ?_⟩
  obtain ⟨g, G', q1, q2, q3⟩ := hr.mat r k kk hk
  refine ((h g).2 G' w vs q2 ⟨by simpa using hvs.1, fun x hx hx' => ?_⟩).mono ?_
  · rw [List.getElem_set]
    have hx0 : x < as.length := by simpa using hx
    split
    · rename_i e
      subst e
      have := hvs.2 i hx0 hx'
      rw [List.getElem?_eq_getElem hx0] at h0
      rw [Option.some.inj h0] at this
      generalize vs[i] = z at this ⊢
      cases this with
      | agg _ xs hs hc =>
      refine .agg _ _ (by simpa using hs) (fun y hy hy' => ?_)
      rw [List.getElem_set]
      have hy0 : y < cs.length := by simpa using hy
      split
      · rename_i e
        subst e
        have := hc j hy0 hy'
        rw [List.getElem?_eq_getElem hy0] at h1
        rw [Option.some.inj h1] at this
        generalize xs[j] = z at this ⊢
        cases this
        exact q3
      · exact (hc y hy0 hy').mono q1
    · exact (hvs.2 x hx0 hx').mono q1
  · rintro e w' ⟨v, av, S', G2, a1, a2, a3, a4, a5⟩
    exact ⟨v, av, S', G2, a1, a2, q1.trans a3, a4, a5⟩
end Go.Gg
